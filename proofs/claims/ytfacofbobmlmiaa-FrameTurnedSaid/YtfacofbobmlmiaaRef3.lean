/-
  The walks of the document's frames (drayageref01, drayageref03) and of more of the lists' functions.
-/
import Derived.Test.YtfacofbobmlmiaaRows
import Derived.Test.YtfacofbobmlmiaaFrame
import Derived.Test.YtfacofbobmlmiaaFrameMath4
import Derived.Test.YtfacofbobmlmiaaRef
set_option linter.unusedVariables false
set_option linter.unusedSimpArgs false
set_option maxHeartbeats 2000000
namespace Go.Proofs.Ytfacofbobmlmiaa
open Go.SL Go.Sum
theorem perm_over (r : Ck) (C X : List Ck) : (r :: (C ++ X)).Perm (C ++ (r :: X)) := (List.perm_middle).symm
theorem perm_c (A B C H : List Ck) : (A ++ (B ++ (C ++ H))).Perm (C ++ (A ++ (B ++ H))) := by
  have := (List.perm_append_comm (l₁ := A ++ B) (l₂ := C)).append_right H
  simpa [List.append_assoc] using this
theorem be2_ref (n : Nat) (a c : List B8') (s : B32) : [215#8, 166#8] ++ beW (BitVec.ofNat 64 n) 2 ++ beW (s.setWidth 64) 4 ++ a = [215#8, 166#8] ++ be2 n ++ be4 s ++ a := by rw [beW_trunc]; rfl


/-- drayage/drayageref01.Num -/
theorem num_tells (n : BitVec 64) (size : Nat) (H : List Ck) (hs : size ≤ 8) : Tells Try.prog 47 [.int .u64 n.toNat, .int .i64 size] H fun r H' => ∃ C, Ob 5 r (beW n size) C ∧ H' = C ++ H := by
  refine Tells.enter Try.func47 rfl Try.ntmps47 rfl ?_
  intro w0 R
  refine WC.seq ?_
  refine WC.region ?_
  refine WL.y rfl (Yd.assign rfl) ?_
  refine WL.nil ?_
  refine DN.then_normal ?_
  refine WC.seq ?_
  refine WC.region ?_
  refine WL.y rfl (Yd.assign rfl) ?_
  refine WL.nil ?_
  refine DN.then_normal ?_
  refine WC.seq ?_
  refine WC.seq ?_
  refine WC.region ?_
  refine WL.y rfl (Yd.assign rfl) ?_
  refine WL.nil ?_
  refine DN.then_normal ?_
  refine WC.block ?_
  refine WC.loop (fun z : Nat × Value × List Ck => z.1 ≤ size ∧ Ob 5 z.2.1 (loW n z.1) z.2.2) (fun z => [(0, .int .u64 (n >>> (8 * z.1)).toNat), (1, .int .i64 size), (5, z.2.1), (6, .int .i64 z.1)]) (fun z => z.2.2 ++ H) (fun z => size - z.1) (0, .slice none 0 0, []) ⟨Nat.zero_le _, Ob.nil _⟩ ⟨by simp; rfl, rfl, rfl, rfl, trivial⟩ (List.Perm.refl _) ?_
  rintro ⟨i, v, C⟩ ⟨hi, ho⟩
  simp only at hi ho
  refine WC.seq ?_
  refine WC.seq ?_
  refine WC.region ?_
  refine WL.y rfl (Yd.move rfl) ?_
  refine WL.y rfl (Yd.move rfl) ?_
  refine WL.y rfl (Yd.lss rfl rfl) ?_
  refine WL.nil ?_
  refine DN.then_normal ?_
  refine WC.ite rfl (fun h11 => ?_) (fun h11 => ?_)
  · have hlt : i < size := by omega
    have hL := loW_length n i
    refine WC.skip ?_
    refine DN.then_normal ?_
    refine WC.seq ?_
    refine WC.block ?_
    refine WC.seq ?_
    refine WC.region ?_
    refine WL.y rfl (Yd.move rfl) ?_
    refine WL.y rfl (Yd.move rfl) ?_
    refine WL.y rfl (Yd.rem64 _ (256#64) rfl rfl rfl rfl (by decide)) ?_
    refine WL.y rfl (Yd.conv64_8 _ (by kernel_rfl) (by kernel_rfl) rfl rfl) ?_
    refine WL.h rfl (Hd.build1 (e := 5) (z := .int .u8 0) (by kernel_rfl) (by kernel_rfl) (by kernel_rfl) rfl rfl fun rb => ⟨_, rfl, ?_⟩)
    refine WL.h rfl (Hd.appendB (e := 5) (zs := [.int .u8 0]) (C := C) (D := row rb (bc [((n >>> (8 * i)) % 256#64).setWidth 8]) 5 :: H) (by kernel_rfl) (by kernel_rfl) rfl rfl rfl ho (Bs.block (bs := [((n >>> (8 * i)) % 256#64).setWidth 8]) rfl (by simp) (List.mem_append_right _ List.mem_cons_self)) (by simp only [List.length_cons, List.length_nil]; omega) (perm_over _ _ _) fun v2 C2 hv2 _ => ⟨_, rfl, ?_⟩)
    refine WL.y rfl (Yd.assign rfl) ?_
    refine WL.nil ?_
    refine DN.then_normal ?_
    refine WC.region ?_
    refine WL.y rfl (Yd.move rfl) ?_
    refine WL.y rfl (Yd.quo64 _ (256#64) rfl rfl rfl rfl (by decide)) ?_
    refine WL.y rfl (Yd.assign rfl) ?_
    refine WL.nil ?_
    refine DN.block_normal ?_
    refine DN.then_normal ?_
    refine WC.region ?_
    refine WL.y rfl (Yd.move rfl) ?_
    refine WL.y rfl (Yd.add rfl rfl (by omega) (by omega)) ?_
    refine WL.y rfl (Yd.assign rfl) ?_
    refine WL.nil ?_
    refine DN.forget (C2 ++ H) (List.Sublist.append (List.Sublist.refl _) (List.sublist_cons_self _ _)) ?_
    exact DN.again (i + 1, v2, C2) ⟨by show i + 1 ≤ size; omega, by rw [loW_next]; exact hv2⟩ (by show size - (i + 1) < size - i; omega) ⟨by rw [← quo_next]; rfl, rfl, rfl, rfl, trivial⟩ (List.Perm.refl _)
  · have hie : size = i := by omega
    subst hie
    refine WC.exit ?_
    refine DN.then_exit ?_
    refine DN.then_exit ?_
    refine DN.block_exit ?_
    refine DN.then_normal ?_
    refine WC.seq ?_
    refine WC.region ?_
    refine WL.y rfl (Yd.assign rfl) ?_
    refine WL.nil ?_
    refine DN.then_normal ?_
    refine WC.seq ?_
    refine WC.seq ?_
    refine WC.region ?_
    refine WL.y rfl (Yd.move rfl) ?_
    refine WL.y rfl (Yd.sub rfl rfl (by omega) (by omega)) ?_
    refine WL.y rfl (Yd.assign rfl) ?_
    refine WL.nil ?_
    refine DN.then_normal ?_
    refine WC.block ?_
    obtain ⟨vo, vc, rfl, hvc⟩ := ho.form
    rw [loW_length] at hvc ⊢
    refine WC.loop (fun z : Nat × Value × List Ck => z.1 ≤ size ∧ Ob 5 z.2.1 ((beW n size).take z.1) z.2.2) (fun z => [(5, .slice vo size vc), (7, z.2.1), (8, .int .i64 ((size : Int) - 1 - z.1))]) (fun z => z.2.2 ++ (C ++ H)) (fun z => size - z.1) (0, .slice none 0 0, []) ⟨Nat.zero_le _, Ob.nil _⟩ ⟨rfl, rfl, by simp; rfl, trivial⟩ (List.Perm.refl _) ?_
    rintro ⟨j, u, E⟩ ⟨hj, hu⟩
    simp only at hj hu
    refine WC.seq ?_
    refine WC.seq ?_
    refine WC.region ?_
    refine WL.y rfl (Yd.move rfl) ?_
    refine WL.y rfl (Yd.geq rfl rfl) ?_
    refine WL.nil ?_
    refine DN.then_normal ?_
    refine WC.ite rfl (fun h25 => ?_) (fun h25 => ?_)
    · have hlt : j < size := by omega
      have hL : ((beW n size).take j).length ≤ 8 := by simp only [List.length_take, beW_length]; omega
      have hlow : size - 1 - j < (loW n size).length := by rw [loW_length]; omega
      refine WC.skip ?_
      refine DN.then_normal ?_
      refine WC.seq ?_
      refine WC.block ?_
      refine WC.region ?_
      refine WL.y rfl (Yd.move rfl) ?_
      refine WL.y rfl (Yd.move rfl) ?_
      refine WL.y rfl (Yd.move rfl) ?_
      refine WL.renamed (t := 30) (v := .int .i64 ((size - 1 - j : Nat) : Int)) rfl (congrArg (Value.int .i64) (by omega)) ?_
      refine WL.elem (e := 5) (by kernel_rfl) (by kernel_rfl) (by kernel_rfl) rfl rfl (rfl) ((show Bs _ (loW n size) _ by have := ho.bs; rwa [loW_length] at this).mono fun x hx => by simp [hx]) (bc_get hlow) (by omega) rfl rfl ?_
      intro _
      refine WL.h rfl (Hd.build1 (e := 5) (z := .int .u8 0) (by kernel_rfl) (by kernel_rfl) (by kernel_rfl) rfl rfl fun rb => ⟨_, rfl, ?_⟩)
      refine WL.h rfl (Hd.appendB (e := 5) (zs := [.int .u8 0]) (C := E) (D := row rb (bc [(loW n size)[size - 1 - j]]) 5 :: (C ++ H)) (by kernel_rfl) (by kernel_rfl) rfl rfl rfl hu (Bs.block (bs := [(loW n size)[size - 1 - j]]) rfl (by simp) (List.mem_append_right _ List.mem_cons_self)) (by simp only [List.length_cons, List.length_nil]; omega) (perm_over _ _ _) fun u2 E2 hu2 _ => ⟨_, rfl, ?_⟩)
      refine WL.y rfl (Yd.assign rfl) ?_
      refine WL.nil ?_
      refine DN.block_normal ?_
      refine DN.then_normal ?_
      refine WC.region ?_
      refine WL.y rfl (Yd.move rfl) ?_
      refine WL.y rfl (Yd.sub rfl rfl (by omega) (by omega)) ?_
      refine WL.renamed (t := 27) (v := .int .i64 ((size : Int) - 1 - ((j + 1 : Nat) : Int))) rfl (congrArg (Value.int .i64) (by omega)) ?_
      refine WL.y rfl (Yd.assign rfl) ?_
      refine WL.nil ?_
      refine DN.forget (E2 ++ (C ++ H)) (List.Sublist.append (List.Sublist.refl _) (List.sublist_cons_self _ _)) ?_
      exact DN.again (j + 1, u2, E2) ⟨by show j + 1 ≤ size; omega, by rw [beW_next n size j (by omega)]; rw [loW_get n size _ (by omega)] at hu2; exact hu2⟩ (by show size - (j + 1) < size - j; omega) ⟨rfl, rfl, rfl, trivial⟩ (List.Perm.refl _)
    · have hje : size = j := by omega
      subst hje
      rw [List.take_of_length_le (by rw [beW_length]; omega)] at hu
      refine WC.exit ?_
      refine DN.then_exit ?_
      refine DN.then_exit ?_
      refine DN.block_exit ?_
      refine DN.then_normal ?_
      refine WC.seq ?_
      refine WC.region ?_
      refine WL.y rfl (Yd.move rfl) ?_
      refine WL.y rfl (Yd.assign rfl) ?_
      refine WL.nil ?_
      refine DN.then_normal ?_
      refine WC.ret ?_
      refine DN.forget (E ++ H) (List.Sublist.append (List.Sublist.refl _) (List.sublist_append_right _ _)) ?_
      refine DN.ret1 Try.results47 rfl ?_
      exact ⟨E, hu, rfl⟩

/-- drayage/drayageref03.Put -/
theorem rput_tells (v : Value) (l : List B8') (H : List Ck) (hv : Bs v l H) (hl : l.length ≤ 9223372036854775807) : Tells Try.prog 30 [v] H fun r H' => ∃ v' C', r = .tuple #[v', .int .i64 (putErr l)] ∧ Ob 5 v' (putOf l) C' ∧ H' = C' ++ H := by
  refine Tells.enter Try.func30 rfl Try.ntmps30 rfl ?_
  intro w0 R
  obtain ⟨vo, vc, rfl, hvc⟩ := hv.form
  refine WC.seq ?_
  refine WC.region ?_
  refine WL.y rfl (Yd.assign rfl) ?_
  refine WL.y rfl (Yd.assign rfl) ?_
  refine WL.nil ?_
  refine DN.then_normal ?_
  refine WC.seq ?_
  refine WC.seq ?_
  refine WC.region ?_
  refine WL.y rfl (Yd.move rfl) ?_
  refine WL.y rfl (Yd.len (e := 5) (by kernel_rfl) rfl) ?_
  refine WL.y rfl (Yd.gtr rfl rfl) ?_
  refine WL.nil ?_
  refine DN.then_normal ?_
  refine WC.ite rfl (fun h9 => ?_) (fun h9 => ?_)
  · have h2 : ¬ l.length ≤ 2000 := by omega
    refine WC.seq ?_
    refine WC.region ?_
    refine WL.y rfl (Yd.assign rfl) ?_
    refine WL.y rfl (Yd.assign rfl) ?_
    refine WL.nil ?_
    refine DN.then_normal ?_
    refine WC.ret ?_
    refine DN.then_ret ?_
    refine DN.ret2 Try.results30 rfl rfl ?_
    exact ⟨_, [], by rw [putErr, if_neg h2], by rw [putOf, if_neg h2]; exact Ob.nil _, rfl⟩
  · have h2 : l.length ≤ 2000 := by omega
    refine WC.skip ?_
    refine DN.then_normal ?_
    refine WC.seq ?_
    refine WC.region ?_
    refine WL.y rfl (Yd.move rfl) ?_
    refine WL.y rfl (Yd.len (e := 5) (by kernel_rfl) rfl) ?_
    refine WL.y rfl (Yd.to64 (BitVec.ofNat 64 l.length) (by kernel_rfl) (by kernel_rfl) rfl (ofInt_nat _)) ?_
    refine WL.ca rfl (Ent.func Try.call47 rfl) (num_tells (BitVec.ofNat 64 l.length) 2 _ (by omega)) ?_
    rintro x1 H1 ⟨C1, ho1, rfl⟩
    refine WL.y rfl (Yd.assign rfl) ?_
    refine WL.nil ?_
    refine DN.then_normal ?_
    refine WC.seq ?_
    refine WC.region ?_
    refine WL.h rfl (Hd.buildBytes (e := 5) [215#8, 166#8] (by kernel_rfl) (by kernel_rfl) (by kernel_rfl) rfl rfl (by kernel_rfl) fun rb => ⟨_, rfl, ?_⟩)
    refine WL.y rfl (Yd.assign rfl) ?_
    refine WL.nil ?_
    refine DN.then_normal ?_
    refine WC.seq ?_
    refine WC.region ?_
    refine WL.y rfl (Yd.move rfl) ?_
    refine WL.y rfl (Yd.move rfl) ?_
    refine WL.h rfl (Hd.appendB (e := 5) (zs := [.int .u8 0]) (a := [215#8, 166#8]) (C := [row rb (bc [215#8, 166#8]) 5]) (D := C1 ++ H) (by kernel_rfl) (by kernel_rfl) rfl rfl rfl (Ob.block rb [215#8, 166#8] (by decide)) (ho1.bs.mono fun x hx => by simp [hx]) (by simp [beW_length]) (List.Perm.refl _) fun v2 C2 hv2 _ => ⟨_, rfl, ?_⟩)
    refine WL.y rfl (Yd.assign rfl) ?_
    refine WL.nil ?_
    refine DN.then_normal ?_
    refine WC.seq ?_
    refine WC.region ?_
    refine WL.y rfl (Yd.move rfl) ?_
    refine WL.y rfl (Yd.move rfl) ?_
    refine WL.h rfl (Hd.appendB (e := 5) (zs := [.int .u8 0]) (C := C1) (D := C2 ++ H) (by kernel_rfl) (by kernel_rfl) rfl rfl rfl ho1 (hv.mono fun x hx => by simp [hx]) (by simp only [beW_length]; omega) (by rw [← List.append_assoc, ← List.append_assoc]; exact List.Perm.append_right _ List.perm_append_comm) fun v3 C3 hv3 _ => ⟨_, rfl, ?_⟩)
    refine WL.y rfl (Yd.assign rfl) ?_
    refine WL.nil ?_
    refine DN.then_normal ?_
    refine WC.seq ?_
    refine WC.region ?_
    refine WL.y rfl (Yd.move rfl) ?_
    refine WL.r rfl (Ent.func Try.call20 rfl) (of2_reads _ _ _ (hv3.bs.mono fun x hx => by simp [hx]) (by simp [beW_length]; omega)) ?_
    refine WL.y rfl (Yd.conv32_64 _ (by kernel_rfl) (by kernel_rfl) rfl rfl) ?_
    refine WL.ca rfl (Ent.func Try.call47 rfl) (num_tells _ 4 _ (by omega)) ?_
    rintro x4 H4 ⟨C4, ho4, rfl⟩
    refine WL.y rfl (Yd.assign rfl) ?_
    refine WL.nil ?_
    refine DN.then_normal ?_
    refine WC.seq ?_
    refine WC.region ?_
    refine WL.y rfl (Yd.move rfl) ?_
    refine WL.y rfl (Yd.move rfl) ?_
    refine WL.h rfl (Hd.appendB (e := 5) (zs := [.int .u8 0]) (C := C2) (D := C4 ++ (C3 ++ H)) (by kernel_rfl) (by kernel_rfl) rfl rfl rfl hv2 (ho4.bs.mono fun x hx => by simp [hx]) (by simp [beW_length]) (perm_c _ _ _ _) fun v5 C5 hv5 _ => ⟨_, rfl, ?_⟩)
    refine WL.y rfl (Yd.assign rfl) ?_
    refine WL.nil ?_
    refine DN.then_normal ?_
    refine WC.seq ?_
    refine WC.region ?_
    refine WL.y rfl (Yd.move rfl) ?_
    refine WL.y rfl (Yd.move rfl) ?_
    refine WL.h rfl (Hd.appendB (e := 5) (zs := [.int .u8 0]) (C := C5) (D := C4 ++ (C3 ++ H)) (by kernel_rfl) (by kernel_rfl) rfl rfl rfl hv5 (hv.mono fun x hx => by simp [hx]) (by simp [beW_length]; omega) (List.Perm.refl _) fun v6 C6 hv6 _ => ⟨_, rfl, ?_⟩)
    refine WL.y rfl (Yd.assign rfl) ?_
    refine WL.nil ?_
    refine DN.then_normal ?_
    refine WC.seq ?_
    refine WC.region ?_
    refine WL.y rfl (Yd.move rfl) ?_
    refine WL.y rfl (Yd.assign rfl) ?_
    refine WL.y rfl (Yd.assign rfl) ?_
    refine WL.nil ?_
    refine DN.then_normal ?_
    refine WC.ret ?_
    refine DN.forget (C6 ++ H) (List.Sublist.append (List.Sublist.refl _) ((List.sublist_append_right _ _).trans (List.sublist_append_right _ _))) ?_
    refine DN.ret2 Try.results30 rfl rfl ?_
    refine ⟨v6, C6, by rw [putErr, if_pos h2], ?_, rfl⟩
    rw [putOf, if_pos h2, frameOf]
    rw [beW_trunc] at hv6
    exact hv6

end Go.Proofs.Ytfacofbobmlmiaa
