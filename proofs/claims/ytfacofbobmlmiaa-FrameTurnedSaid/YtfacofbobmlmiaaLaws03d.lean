/-
  The walk of the law of chapter 03: turned bits.
-/
import Derived.Test.YtfacofbobmlmiaaLaws03c
import Derived.Test.YtfacofbobmlmiaaRowMath3
set_option linter.unusedVariables false
set_option linter.unusedSimpArgs false
set_option maxHeartbeats 4000000
namespace Go.Proofs.Ytfacofbobmlmiaa
open Go.SL Go.Sum
theorem mid_get (P M S : List (BitVec 8)) (extra : List Value) (q : Nat) (h : q < M.length) : (bc (P ++ (M ++ S)) ++ extra)[P.length + q]? = some (.int .u8 (M.getD q 0#8).toNat) := by
  rw [List.getElem?_append_left (by simp [bc_length]; omega)]
  simp only [bc, List.getElem?_map]
  rw [List.getElem?_append_right (by omega), Nat.add_sub_cancel_left, List.getElem?_append_left h]
  simp [h]
theorem mid_set (P M S : List (BitVec 8)) (extra : List Value) (q : Nat) (x : BitVec 8) (h : q < M.length) : (bc (P ++ (M ++ S)) ++ extra).set (P.length + q) (.int .u8 x.toNat) = bc (P ++ (M.set q x ++ S)) ++ extra := by
  rw [List.set_append_left _ _ (by simp [bc_length]; omega), bc_set, List.set_append_right _ _ (by omega), Nat.add_sub_cancel_left, List.set_append_left _ _ h]
theorem startOf_eq (at_ : Int) (n m : Nat) (h : m = 8 * n) : (BitVec.ofInt 64 at_ % BitVec.ofNat 64 m).toNat = startOf at_ n := by subst h; rfl


/-- drayage/drayagelaw03.FrameTurned -/
theorem law_FrameTurned (u : Value) (which at_ : Int) (by_ : BitVec 32) (inSum : Bool) (as1 : List (List B8')) (H : List Ck) (hu : Bss u as1 H) (hl1 : as1.length ≤ 9223372036854775807) (hls1 : ∀ l ∈ as1, l.length ≤ 9223372036854775807) : Reads Try.prog 14 [u, .int .i64 which, .int .i64 at_, .int .u32 by_.toNat, .bool inSum] H (.bool true) := by
  refine Tells.enter Try.func14 rfl Try.ntmps14 rfl ?_
  intro w0 R
  refine WC.seq ?_
  refine WC.region ?_
  refine WL.y rfl (Yd.assign rfl) ?_
  refine WL.nil ?_
  refine DN.then_normal ?_
  refine WC.seq ?_
  refine WC.region ?_
  refine WL.y rfl (Yd.move rfl) ?_
  refine WL.ca rfl (Ent.func Try.call39 rfl) (row_tells _ as1 _ hu hl1 hls1) ?_
  rintro q H1 ⟨g1, b1, vg1, ve1, gvs1, Cb1, Cg1, Ce1, rfl, hr1, rfl⟩
  obtain ⟨b1o, b1c, rfl, hb1c⟩ := hr1.bytes.form
  obtain ⟨vg1o, vg1c, rfl, hvg1c⟩ := hr1.list.form
  obtain ⟨ve1o, ve1c, rfl, hve1c⟩ := hr1.ends.form
  have hfew1 := flat_few g1
  have hlen1 := hr1.len
  refine WL.y rfl (Yd.move rfl) ?_
  refine WL.y rfl (Yd.extract rfl rfl) ?_
  refine WL.y rfl (Yd.extract rfl rfl) ?_
  refine WL.y rfl (Yd.extract rfl rfl) ?_
  refine WL.y rfl (Yd.assign rfl) ?_
  refine WL.y rfl (Yd.assign rfl) ?_
  refine WL.y rfl (Yd.assign rfl) ?_
  refine WL.nil ?_
  refine DN.then_normal ?_
  refine WC.seq ?_
  refine WC.seq ?_
  refine WC.region ?_
  refine WL.y rfl (Yd.move rfl) ?_
  refine WL.y rfl (Yd.len (e := 22) (by kernel_rfl) rfl) ?_
  refine WL.y rfl (Yd.eql rfl rfl) ?_
  refine WL.y rfl (Yd.move rfl) ?_
  refine WL.partP (t := 34) rfl (fun hg34 => ?_) (fun hg34 => ?_)
  · refine WL.gn (dj := 34) rfl rfl rfl rfl ?_
    refine WL.gn (dj := 34) rfl rfl rfl rfl ?_
    refine WL.y rfl (Yd.pickT rfl rfl) ?_
    refine WL.nil ?_
    refine DN.then_normal ?_
    refine WC.yes rfl ?_
    refine WC.seq ?_
    refine WC.region ?_
    refine WL.r rfl (Ent.func Try.call27 rfl) (known03 _) ?_
    refine WL.y rfl (Yd.assign rfl) ?_
    refine WL.nil ?_
    refine DN.then_normal ?_
    refine WC.ret ?_
    refine DN.then_ret ?_
    refine DN.forget H (by (repeat (first | exact List.Sublist.refl _ | exact List.nil_sublist _ | apply List.Sublist.cons_cons | apply List.Sublist.cons | apply List.sublist_append_of_sublist_right))) ?_
    refine DN.ret1 Try.results14 rfl ?_
    exact ⟨rfl, rfl⟩
  · refine WL.gy (dj := 34) rfl rfl rfl (Yd.move rfl) ?_
    refine WL.gy (dj := 34) rfl rfl rfl (Yd.eql32 _ (0#32) rfl rfl rfl rfl) ?_
    refine WL.y rfl (Yd.pickF rfl rfl) ?_
    refine WL.nil ?_
    refine DN.then_normal ?_
    refine WC.ite rfl (fun h37 => ?_) (fun h37 => ?_)
    · refine WC.seq ?_
      refine WC.region ?_
      refine WL.r rfl (Ent.func Try.call27 rfl) (known03 _) ?_
      refine WL.y rfl (Yd.assign rfl) ?_
      refine WL.nil ?_
      refine DN.then_normal ?_
      refine WC.ret ?_
      refine DN.then_ret ?_
      refine DN.forget H (by (repeat (first | exact List.Sublist.refl _ | exact List.nil_sublist _ | apply List.Sublist.cons_cons | apply List.Sublist.cons | apply List.sublist_append_of_sublist_right))) ?_
      refine DN.ret1 Try.results14 rfl ?_
      exact ⟨rfl, rfl⟩
    · refine WC.skip ?_
      refine DN.then_normal ?_
      refine WC.seq ?_
      refine WC.region ?_
      have hg0 : 0 < g1.length := by omega
      obtain ⟨k, hk⟩ : ∃ k, k = (BitVec.ofInt 64 which % BitVec.ofNat 64 g1.length).toNat := ⟨_, rfl⟩
      have hkl : k < g1.length := by
        rw [hk, BitVec.toNat_umod, ofNat_toNat (by omega)]
        exact Nat.mod_lt _ hg0
      obtain ⟨be, oe, cse, Te, fre, exe, ee, hme, hce⟩ := hr1.ends.rs.at (by intro e; have h9 := congrArg List.length e; simp only [ic_length, endsOf_length, List.length_nil] at h9; omega)
      obtain ⟨bg, og, csg, Tg, frg, exg, eg, hmg, hcg⟩ := hr1.list.rs.at (by intro e; have h9 := congrArg List.length e; rw [hr1.each.1] at h9; simp only [List.length_nil] at h9; omega)
      subst ee eg
      obtain ⟨w, hwi, hwb⟩ := hr1.each.2 k hkl
      obtain ⟨wo, wc, rfl, hwc⟩ := hwb.form
      have hek := hce k _ (ends_cell g1 k hkl)
      have hgk := hcg k _ hwi
      have hnext := flat_take_next g1 k hkl
      have hle := flat_take_le g1 (k + 1)
      have hshort := hr1.short _ (List.getElem_mem hkl)
      refine WL.y rfl (Yd.move rfl) ?_
      refine WL.y rfl (Yd.to64 (BitVec.ofInt 64 which) (by kernel_rfl) (by kernel_rfl) rfl rfl) ?_
      refine WL.y rfl (Yd.move rfl) ?_
      refine WL.y rfl (Yd.len (e := 22) (by kernel_rfl) rfl) ?_
      refine WL.y rfl (Yd.to64 (BitVec.ofNat 64 g1.length) (by kernel_rfl) (by kernel_rfl) rfl (ofInt_nat _)) ?_
      refine WL.y rfl (Yd.rem64 (BitVec.ofInt 64 which) (BitVec.ofNat 64 g1.length) rfl rfl rfl rfl (by rw [ofNat_toNat (by omega)]; omega)) ?_
      refine WL.y rfl (Yd.toInt (m := (k : Int)) (by kernel_rfl) (by kernel_rfl) (by rw [hk]; rfl) (by omega) (by omega)) ?_
      refine WL.y rfl (Yd.assign rfl) ?_
      refine WL.nil ?_
      refine DN.then_normal ?_
      refine WC.seq ?_
      refine WC.draw 11 (by kernel_rfl) rfl ?_
      refine WA.y (i := 0) (NoPanic.then (NoPanic.body)) rfl (by kernel_rfl) (by kernel_rfl) (by kernel_rfl) rfl (Yd.move rfl) ?_
      refine WA.y (i := 1) (NoPanic.then (NoPanic.body)) rfl (by kernel_rfl) (by kernel_rfl) (by kernel_rfl) rfl (Yd.move rfl) ?_
      refine WA.y (i := 2) (NoPanic.then (NoPanic.body)) rfl (by kernel_rfl) (by kernel_rfl) (by kernel_rfl) rfl (Yd.indexAddr (e := 3) (s := 1) (by kernel_rfl) (by kernel_rfl) rfl rfl (by omega) (by omega)) ?_
      refine WA.y (i := 4) (NoPanic.then (NoPanic.body)) rfl (by kernel_rfl) (by kernel_rfl) (by kernel_rfl) rfl (Yd.move rfl) ?_
      refine WA.y (i := 5) (NoPanic.then (NoPanic.body)) rfl (by kernel_rfl) (by kernel_rfl) (by kernel_rfl) rfl (Yd.move rfl) ?_
      refine WA.y (i := 6) (NoPanic.then (NoPanic.body)) rfl (by kernel_rfl) (by kernel_rfl) (by kernel_rfl) rfl (Yd.indexAddr (e := 22) (s := 1) (by kernel_rfl) (by kernel_rfl) rfl rfl (by omega) (by omega)) ?_
      refine WA.two (i := 3) (j := 7) (by kernel_rfl) ?_ ?_
      · refine WO.h rfl Wt.none rfl (Hd.load1 (b := be) (cs := cse.toList) (by kernel_rfl) rfl (List.mem_append_right _ (List.mem_append_right _ (List.mem_append_left _ (by simpa using hme)))) (by simpa using hek) ⟨_, rfl, ?_⟩)
        refine WA.one (i := 7) (by kernel_rfl) ?_
        refine WO.h rfl Wt.none rfl (Hd.load1 (b := bg) (cs := csg.toList) (by kernel_rfl) rfl (List.mem_append_right _ (List.mem_append_left _ (by simpa using hmg))) (by simpa using hgk) ⟨_, rfl, ?_⟩)
        refine WA.y (i := 8) (NoPanic.then (NoPanic.body)) rfl (by kernel_rfl) (by kernel_rfl) (by kernel_rfl) rfl (Yd.len (e := 5) (by kernel_rfl) rfl) ?_
        refine WA.y (i := 9) (NoPanic.then (NoPanic.body)) rfl (by kernel_rfl) (by kernel_rfl) (by kernel_rfl) rfl (Yd.sub rfl rfl (by omega) (by omega)) ?_
        refine WA.renamed (t := 55) (v := .int .i64 (((flat (g1.take k)).length + 8 : Nat) : Int)) rfl (congrArg (Value.int .i64) (by omega)) ?_
        refine WA.y (i := 10) (NoPanic.then (NoPanic.body)) rfl (by kernel_rfl) (by kernel_rfl) (by kernel_rfl) rfl (Yd.assign rfl) ?_
        refine WA.done (by kernel_rfl) ?_
        refine DN.then_normal ?_
        refine WC.seq ?_
        refine WC.region ?_
        refine WL.y rfl (Yd.move rfl) ?_
        refine WL.y rfl (Yd.move rfl) ?_
        refine WL.elem (e := 3) (by kernel_rfl) (by kernel_rfl) (by kernel_rfl) rfl rfl (rfl) (hr1.ends.rs.mono fun y hy => by simp [hy]) (ends_cell g1 k hkl) (by omega) rfl rfl ?_
        intro _
        refine WL.y rfl (Yd.assign rfl) ?_
        refine WL.nil ?_
        refine DN.then_normal ?_
        refine WC.cut (fun z : List B8' × List B8' × List B8' => Reg g1 k z.1 z.2.1 z.2.2) (fun z => [(2, .int .i64 at_), (3, .int .u32 by_.toNat), (11, .slice b1o (flat g1).length b1c), (12, .slice (some ⟨bg, og, none⟩) g1.length vg1c), (13, .slice (some ⟨be, oe, none⟩) g1.length ve1c), (14, .int .i64 k), (15, .int .i64 z.1.length), (16, .int .i64 ((z.1.length + z.2.1.length : Nat) : Int))]) (fun _ => Cb1 ++ (Cg1 ++ (Ce1 ++ H))) ?_ ?_
        · refine WC.seq ?_
          refine WC.region ?_
          refine WL.y rfl (Yd.move rfl) ?_
          refine WL.nil ?_
          refine DN.then_normal ?_
          refine WC.cond rfl (fun h60 => ?_) (fun h60 => ?_)
          · refine WC.seq ?_
            refine WC.region ?_
            refine WL.y rfl (Yd.move rfl) ?_
            refine WL.y rfl (Yd.assign rfl) ?_
            refine WL.nil ?_
            refine DN.then_normal ?_
            refine WC.region ?_
            refine WL.y rfl (Yd.move rfl) ?_
            refine WL.y rfl (Yd.sub rfl rfl (by omega) (by omega)) ?_
            refine WL.y rfl (Yd.assign rfl) ?_
            refine WL.nil ?_
            refine DN.reach (flat (g1.take k) ++ ([215#8, 166#8] ++ be2 g1[k].length), be4 (crcOf (be2 g1[k].length ++ g1[k])), g1[k] ++ flat (g1.drop (k + 1))) (Reg.sum g1 hr1.short k hkl) ⟨rfl, rfl, rfl, rfl, rfl, rfl, ?_, ?_, trivial⟩ (List.Perm.refl _)
            · refine congrArg (fun x => some (Value.int .i64 x)) ?_
              simp only [List.length_append, List.length_cons, List.length_nil, be2_length]; omega
            · refine congrArg (fun x => some (Value.int .i64 x)) ?_
              simp only [List.length_append, List.length_cons, List.length_nil, be2_length, be4_length]
          · refine WC.skip ?_
            refine DN.reach (flat (g1.take k) ++ ([215#8, 166#8] ++ be2 g1[k].length ++ be4 (crcOf (be2 g1[k].length ++ g1[k]))), g1[k], flat (g1.drop (k + 1))) (Reg.body g1 hr1.short k hkl) ⟨rfl, rfl, rfl, rfl, rfl, rfl, ?_, ?_, trivial⟩ (List.Perm.refl _)
            · refine congrArg (fun x => some (Value.int .i64 x)) ?_
              simp only [List.length_append, List.length_cons, List.length_nil, be2_length, be4_length]
            · refine congrArg (fun x => some (Value.int .i64 x)) ?_
              simp only [List.length_append, List.length_cons, List.length_nil, be2_length, be4_length]; omega
        · rintro ⟨P, M, S⟩ hreg
          dsimp only at hreg ⊢
          refine WC.seq ?_
          refine WC.seq ?_
          refine WC.region ?_
          refine WL.y rfl (Yd.move rfl) ?_
          refine WL.y rfl (Yd.move rfl) ?_
          refine WL.y rfl (Yd.eql rfl rfl) ?_
          refine WL.nil ?_
          refine DN.then_normal ?_
          refine WC.ite rfl (fun h66 => ?_) (fun h66 => ?_)
          · refine WC.seq ?_
            refine WC.region ?_
            refine WL.r rfl (Ent.func Try.call27 rfl) (known03 _) ?_
            refine WL.y rfl (Yd.assign rfl) ?_
            refine WL.nil ?_
            refine DN.then_normal ?_
            refine WC.ret ?_
            refine DN.then_ret ?_
            refine DN.forget H (by (repeat (first | exact List.Sublist.refl _ | exact List.nil_sublist _ | apply List.Sublist.cons_cons | apply List.Sublist.cons | apply List.sublist_append_of_sublist_right))) ?_
            refine DN.ret1 Try.results14 rfl ?_
            exact ⟨rfl, rfl⟩
          · refine WC.skip ?_
            refine DN.then_normal ?_
            refine WC.seq ?_
            refine WC.region ?_
            obtain ⟨s, hs⟩ : ∃ s, s = startOf at_ M.length := ⟨_, rfl⟩
            have hMpos : 0 < M.length := by omega
            have hMl := hreg.len
            have hPM : P.length + M.length ≤ (flat g1).length := by rw [hreg.eq]; simp only [List.length_append]; omega
            have hslt : s < 8 * M.length := by rw [hs]; exact startOf_lt at_ hMpos (by omega)
            have hrows := hr1.bytes
            rcases hrows with ⟨_, h0, _⟩ | ⟨b0, cap, extra, he, hc1, hc2, hx1, hx2, hCb⟩
            · omega
            simp only [Value.slice.injEq] at he
            obtain ⟨rfl, _, rfl⟩ := he
            subst hCb
            refine WL.y rfl (Yd.move rfl) ?_
            refine WL.y rfl (Yd.mul rfl rfl (by omega) (by omega)) ?_
            refine WL.y rfl (Yd.move rfl) ?_
            refine WL.y rfl (Yd.to64 (BitVec.ofInt 64 at_) (by kernel_rfl) (by kernel_rfl) rfl rfl) ?_
            refine WL.y rfl (Yd.move rfl) ?_
            refine WL.y rfl (Yd.move rfl) ?_
            refine WL.y rfl (Yd.sub rfl rfl (by omega) (by omega)) ?_
            refine WL.y rfl (Yd.mul rfl rfl (by omega) (by omega)) ?_
            refine WL.renamed (t := 75) (v := .int .i64 ((8 * M.length : Nat) : Int)) rfl (congrArg (Value.int .i64) (by omega)) ?_
            refine WL.y rfl (Yd.to64 (BitVec.ofNat 64 (8 * M.length)) (by kernel_rfl) (by kernel_rfl) rfl (ofInt_nat _)) ?_
            refine WL.y rfl (Yd.rem64 (BitVec.ofInt 64 at_) (BitVec.ofNat 64 (8 * M.length)) rfl rfl rfl rfl (by rw [ofNat_toNat (by omega)]; omega)) ?_
            refine WL.y rfl (Yd.toInt (m := (s : Int)) (by kernel_rfl) (by kernel_rfl) (by rw [hs]; rfl) (by omega) (by omega)) ?_
            refine WL.y rfl (Yd.add rfl rfl (by omega) (by omega)) ?_
            refine WL.renamed (t := 79) (v := .int .i64 ((8 * P.length + s : Nat) : Int)) rfl (congrArg (Value.int .i64) (by omega)) ?_
            refine WL.y rfl (Yd.assign rfl) ?_
            refine WL.nil ?_
            refine DN.then_normal ?_
            refine WC.seq ?_
            refine WC.region ?_
            refine WL.y rfl (Yd.assign rfl) ?_
            refine WL.nil ?_
            refine DN.then_normal ?_
            refine WC.seq ?_
            refine WC.seq ?_
            refine WC.region ?_
            refine WL.y rfl (Yd.assign rfl) ?_
            refine WL.nil ?_
            refine DN.then_normal ?_
            refine WC.block ?_
            rw [hreg.eq] at hx1
            refine WC.loop (fun i : Nat => i ≤ 32) (fun i => [(3, .int .u32 by_.toNat), (11, .slice (some ⟨b0, 0, none⟩) (flat g1).length b1c), (12, .slice (some ⟨bg, og, none⟩) g1.length vg1c), (13, .slice (some ⟨be, oe, none⟩) g1.length ve1c), (14, .int .i64 k), (16, .int .i64 ((P.length + M.length : Nat) : Int)), (17, .int .i64 ((8 * P.length + s : Nat) : Int)), (18, .bool (turnedK M s by_ i).2), (19, .int .i64 i)]) (fun i => row b0 (bc (P ++ ((turnedK M s by_ i).1 ++ S)) ++ extra) 5 :: (Cg1 ++ (Ce1 ++ H))) (fun i => 32 - i) 0 (Nat.zero_le _) ⟨rfl, rfl, rfl, rfl, rfl, rfl, rfl, rfl, rfl, trivial⟩ (by rw [hreg.eq]; exact List.Perm.refl _) ?_
            intro i hi
            refine WC.seq ?_
            refine WC.seq ?_
            refine WC.region ?_
            refine WL.y rfl (Yd.move rfl) ?_
            refine WL.y rfl (Yd.lss rfl rfl) ?_
            refine WL.y rfl (Yd.move rfl) ?_
            refine WL.partP (t := 82) rfl (fun hg82 => ?_) (fun hg82 => ?_)
            · refine WL.gy (dj := 82) rfl rfl rfl (Yd.move rfl) ?_
              refine WL.gy (dj := 82) rfl rfl rfl (Yd.move rfl) ?_
              refine WL.gy (dj := 82) rfl rfl rfl (Yd.add rfl rfl (by omega) (by omega)) ?_
              refine WL.gy (dj := 82) rfl rfl rfl (Yd.move rfl) ?_
              refine WL.gy (dj := 82) rfl rfl rfl (Yd.mul rfl rfl (by omega) (by omega)) ?_
              refine WL.gy (dj := 82) rfl rfl rfl (Yd.lss rfl rfl) ?_
              refine WL.y rfl (Yd.pickT rfl rfl) ?_
              refine WL.nil ?_
              refine DN.then_normal ?_
              refine WC.ite rfl (fun h89 => ?_) (fun h89 => ?_)
              · have h89n : s + i < 8 * M.length := by omega
                refine WC.skip ?_
                refine DN.then_normal ?_
                refine WC.seq ?_
                refine WC.block ?_
                refine WC.seq ?_
                refine WC.region ?_
                refine WL.y rfl (Yd.move rfl) ?_
                refine WL.y rfl (Yd.move rfl) ?_
                refine WL.y rfl (Yd.to64 (BitVec.ofNat 64 i) (by kernel_rfl) (by kernel_rfl) rfl (ofInt_nat i)) ?_
                refine WL.y rfl (Yd.shr32 _ i rfl rfl rfl (by rw [ofNat_toNat (by omega)])) ?_
                refine WL.y rfl (Yd.and32 _ (1#32) rfl rfl rfl rfl) ?_
                refine WL.y rfl (Yd.eql32 _ (1#32) rfl rfl rfl rfl) ?_
                refine WL.nil ?_
                refine DN.then_normal ?_
                refine WC.ite rfl (fun h97 => ?_) (fun h97 => ?_)
                · have hyes := turnedK_yes M s by_ i h89n h97
                  have hL := turnedK_length M s by_ i
                  have hq : (s + i) / 8 < M.length := by omega
                  refine WC.seq ?_
                  refine WC.region ?_
                  refine WL.y rfl (Yd.move rfl) ?_
                  refine WL.y rfl (Yd.move rfl) ?_
                  refine WL.y rfl (Yd.add rfl rfl (by omega) (by omega)) ?_
                  refine WL.y rfl (Yd.assign rfl) ?_
                  refine WL.nil ?_
                  refine DN.then_normal ?_
                  refine WC.seq ?_
                  refine WC.region ?_
                  refine WL.y rfl (Yd.move rfl) ?_
                  refine WL.y rfl (Yd.move rfl) ?_
                  refine WL.y rfl (Yd.quo rfl rfl (by omega) (by omega) (by omega)) ?_
                  refine WL.renamed (t := 103) (v := .int .i64 ((P.length + (s + i) / 8 : Nat) : Int)) rfl (congrArg (Value.int .i64) (by omega)) ?_
                  refine WL.y rfl (Yd.move rfl) ?_
                  refine WL.y rfl (Yd.move rfl) ?_
                  refine WL.y rfl (Yd.quo rfl rfl (by omega) (by omega) (by omega)) ?_
                  refine WL.renamed (t := 106) (v := .int .i64 ((P.length + (s + i) / 8 : Nat) : Int)) rfl (congrArg (Value.int .i64) (by omega)) ?_
                  refine WL.y rfl (Yd.indexAddr (e := 5) (s := 1) (by kernel_rfl) (by kernel_rfl) rfl rfl (by omega) (by omega)) ?_
                  refine WL.h rfl (Hd.load1 (v := .int .u8 ((turnedK M s by_ i).1.getD ((s + i) / 8) 0#8).toNat) (b := b0) (cs := bc (P ++ ((turnedK M s by_ i).1 ++ S)) ++ extra) (by kernel_rfl) rfl List.mem_cons_self (by rw [show 0 + ((P.length + (s + i) / 8 : Nat) : Int).toNat * 1 = P.length + (s + i) / 8 by omega]; exact mid_get _ _ _ _ _ (by omega)) ⟨_, rfl, ?_⟩)
                  refine WL.y rfl (Yd.move rfl) ?_
                  refine WL.y rfl (Yd.rem rfl rfl (by omega) (by omega)) ?_
                  refine WL.renamed (t := 110) (v := .int .i64 (((s + i) % 8 : Nat) : Int)) rfl (congrArg (Value.int .i64) (by omega)) ?_
                  refine WL.y rfl (Yd.to64 (BitVec.ofNat 64 ((s + i) % 8)) (by kernel_rfl) (by kernel_rfl) rfl (ofInt_nat _)) ?_
                  refine WL.y rfl (Yd.shl8 (1#8) ((s + i) % 8) rfl rfl rfl (by rw [ofNat_toNat (by omega)])) ?_
                  refine WL.y rfl (Yd.xor8 _ _ rfl rfl rfl rfl) ?_
                  refine WL.y rfl (Yd.indexAddr (e := 5) (s := 1) (by kernel_rfl) (by kernel_rfl) rfl rfl (by omega) (by omega)) ?_
                  refine WL.s (Hd.store1 (b := b0) (cs := bc (P ++ ((turnedK M s by_ i).1 ++ S)) ++ extra) (T' := 5) (D := Cg1 ++ (Ce1 ++ H)) (by kernel_rfl) rfl rfl rfl (List.Perm.refl _) (by simp [bc_length]; omega) ⟨rfl, ?_⟩)
                  refine WL.nil ?_
                  refine DN.then_normal ?_
                  refine WC.region ?_
                  refine WL.y rfl (Yd.assign rfl) ?_
                  refine WL.nil ?_
                  refine DN.block_normal ?_
                  refine DN.then_normal ?_
                  refine WC.region ?_
                  refine WL.y rfl (Yd.move rfl) ?_
                  refine WL.y rfl (Yd.add rfl rfl (by omega) (by omega)) ?_
                  refine WL.y rfl (Yd.assign rfl) ?_
                  refine WL.nil ?_
                  refine DN.again (i + 1) (by omega) (by omega) ⟨rfl, rfl, rfl, rfl, rfl, rfl, rfl, by rw [hyes]; rfl, rfl, trivial⟩ ?_
                  rw [hyes, show 0 + ((P.length + (s + i) / 8 : Nat) : Int).toNat * 1 = P.length + (s + i) / 8 by omega, mid_set _ _ _ _ _ _ (by omega)]
                  exact List.Perm.refl _
                · have hno := turnedK_no M s by_ i h97
                  refine WC.skip ?_
                  refine DN.block_normal ?_
                  refine DN.then_normal ?_
                  refine WC.region ?_
                  refine WL.y rfl (Yd.move rfl) ?_
                  refine WL.y rfl (Yd.add rfl rfl (by omega) (by omega)) ?_
                  refine WL.y rfl (Yd.assign rfl) ?_
                  refine WL.nil ?_
                  refine DN.again (i + 1) (by omega) (by omega) ⟨rfl, rfl, rfl, rfl, rfl, rfl, rfl, by rw [hno]; rfl, rfl, trivial⟩ ?_
                  rw [hno]
              · refine WC.exit ?_
                refine DN.then_exit ?_
                refine DN.then_exit ?_
                refine DN.block_exit ?_
                refine DN.then_normal ?_
                refine WC.seq ?_
                refine WC.region ?_
                have hfin : turnedK M s by_ i = turnedAll M s by_ := by first | (exact (turnedK_past M s by_ i (by omega) 32 hi).symm) | (rw [show i = 32 by omega]; rfl)
                rw [hfin]
                have hML : (turnedAll M s by_).1.length = M.length := turnedK_length _ _ _ _
                have hbl : (P ++ ((turnedAll M s by_).1 ++ S)).length = (flat g1).length := by rw [hreg.eq]; simp [hML]
                have hOb : Ob 5 (.slice (some ⟨b0, 0, none⟩) (flat g1).length b1c) (P ++ ((turnedAll M s by_).1 ++ S)) [row b0 (bc (P ++ ((turnedAll M s by_).1 ++ S)) ++ extra) 5] := .inr ⟨b0, b1c, extra, by rw [hbl], by rw [hbl]; exact hc1, hc2, by rw [bc_length]; omega, by rw [hbl]; exact hx2, rfl⟩
                refine WL.y rfl (Yd.move rfl) ?_
                refine WL.ca rfl (Ent.func Try.call36 rfl) (all2_tells _ (P ++ ((turnedAll M s by_).1 ++ S)) _ (hOb.bs.mono fun y hy => by rw [List.mem_singleton.1 hy]; exact List.mem_cons_self) (by rw [hbl]; omega)) ?_
                rintro q H6 ⟨u6, ws6, A6, D6, rfl, hA6, hW6, rfl⟩
                refine WL.y rfl (Yd.move rfl) ?_
                refine WL.y rfl (Yd.extract rfl rfl) ?_
                refine WL.y rfl (Yd.extract rfl rfl) ?_
                refine WL.y rfl (Yd.extract rfl rfl) ?_
                refine WL.y rfl (Yd.assign rfl) ?_
                refine WL.y rfl (Yd.assign rfl) ?_
                refine WL.y rfl (Yd.assign rfl) ?_
                refine WL.nil ?_
                refine DN.then_normal ?_
                refine WC.seq ?_
                refine WC.seq ?_
                refine WC.region ?_
                refine WL.y rfl (Yd.move rfl) ?_
                refine WL.y rfl (Yd.notB rfl) ?_
                refine WL.nil ?_
                refine DN.then_normal ?_
                refine WC.cond rfl (fun h122 => ?_) (fun h122 => ?_)
                · have hall := hreg.same hr1.short s by_ (by simpa using h122)
                  rw [hall] at hA6 hW6 ⊢
                  obtain ⟨u6o, u6c, rfl, hu6c⟩ := hA6.form
                  refine WC.seq ?_
                  refine WC.region ?_
                  refine WL.y rfl (Yd.move rfl) ?_
                  refine WL.y rfl (Yd.eql rfl rfl) ?_
                  refine WL.renamed (t := 124) (v := .bool true) rfl (congrArg Value.bool (by simp)) ?_
                  refine WL.y rfl (Yd.move rfl) ?_
                  refine WL.gy (dj := 125) rfl rfl rfl (Yd.move rfl) ?_
                  refine WL.gy (dj := 125) rfl rfl rfl (Yd.move rfl) ?_
                  refine WL.gr (dj := 125) rfl rfl rfl (Ent.func Try.call38 rfl) (sameLists_reads _ _ g1 g1 _ ((hW6.bss hA6).mono fun y hy => by simp at hy; rcases hy with hy | hy <;> simp [hy]) ((hr1.each.bss hr1.list).mono fun y hy => by simp at hy; rcases hy with hy | hy <;> simp [hy]) (by omega)) ?_
                  refine WL.renamed (t := 128) (v := .bool true) rfl (congrArg Value.bool (by simp)) ?_
                  refine WL.y rfl (Yd.pickT rfl rfl) ?_
                  refine WL.y rfl (Yd.move rfl) ?_
                  refine WL.gr (dj := 130) rfl rfl rfl (Ent.func Try.call27 rfl) (known03 _) ?_
                  refine WL.y rfl (Yd.pickT rfl rfl) ?_
                  refine WL.y rfl (Yd.assign rfl) ?_
                  refine WL.nil ?_
                  refine DN.then_normal ?_
                  refine WC.ret ?_
                  refine DN.then_ret ?_
                  refine DN.forget H (by (repeat (first | exact List.Sublist.refl _ | exact List.nil_sublist _ | apply List.Sublist.cons_cons | apply List.Sublist.cons | apply List.sublist_append_of_sublist_right))) ?_
                  refine DN.ret1 Try.results14 rfl ?_
                  exact ⟨rfl, rfl⟩
                · have hall := hreg.turned s by_ hslt (by simpa using h122)
                  rw [hall] at hA6 hW6 ⊢
                  obtain ⟨u6o, u6c, rfl, hu6c⟩ := hA6.form
                  refine WC.skip ?_
                  refine DN.then_normal ?_
                  refine WC.seq ?_
                  refine WC.region ?_
                  refine WL.y rfl (Yd.assign rfl) ?_
                  refine WL.nil ?_
                  refine DN.then_normal ?_
                  refine WC.seq ?_
                  refine WC.seq ?_
                  refine WC.region ?_
                  refine WL.y rfl (Yd.move rfl) ?_
                  refine WL.y rfl (Yd.gtr rfl rfl) ?_
                  refine WL.nil ?_
                  refine DN.then_normal ?_
                  refine WC.ite rfl (fun h134 => ?_) (fun h134 => ?_)
                  · refine WC.region ?_
                    have hk0 : 0 < k := by omega
                    refine WL.y rfl (Yd.move rfl) ?_
                    refine WL.y rfl (Yd.move rfl) ?_
                    refine WL.y rfl (Yd.sub rfl rfl (by omega) (by omega)) ?_
                    refine WL.renamed (t := 137) (v := .int .i64 ((k - 1 : Nat) : Int)) rfl (congrArg (Value.int .i64) (by omega)) ?_
                    refine WL.elem (e := 3) (by kernel_rfl) (by kernel_rfl) (by kernel_rfl) rfl rfl (rfl) (hr1.ends.rs.mono fun y hy => by simp [hy]) ((by have := ends_cell g1 (k - 1) (by omega); rwa [show k - 1 + 1 = k by omega] at this)) (by omega) rfl rfl ?_
                    intro _
                    refine WL.y rfl (Yd.assign rfl) ?_
                    refine WL.nil ?_
                    refine DN.then_normal ?_
                    refine WC.seq ?_
                    refine WC.region ?_
                    refine WL.y rfl (Yd.move rfl) ?_
                    refine WL.y rfl (Yd.eql rfl rfl) ?_
                    refine WL.renamed (t := 141) (v := .bool true) rfl (congrArg Value.bool (by simp)) ?_
                    refine WL.y rfl (Yd.move rfl) ?_
                    refine WL.gy (dj := 142) rfl rfl rfl (Yd.move rfl) ?_
                    refine WL.gy (dj := 142) rfl rfl rfl (Yd.move rfl) ?_
                    refine WL.gy (dj := 142) rfl rfl rfl (Yd.eql rfl rfl) ?_
                    refine WL.renamed (t := 145) (v := .bool true) rfl (congrArg Value.bool (decide_eq_true (by first | rfl | (simp only [hk00]; rfl)))) ?_
                    refine WL.y rfl (Yd.pickT rfl rfl) ?_
                    refine WL.y rfl (Yd.move rfl) ?_
                    refine WL.gy (dj := 147) rfl rfl rfl (Yd.move rfl) ?_
                    refine WL.gy (dj := 147) rfl rfl rfl (Yd.move rfl) ?_
                    refine WL.gy (dj := 147) rfl rfl rfl (Yd.move rfl) ?_
                    refine WL.gy (dj := 147) rfl rfl rfl (Yd.sliceTo (e := 22) (s := 1) (j := k) (by kernel_rfl) (by kernel_rfl) rfl rfl rfl (by omega)) ?_
                    refine WL.gr (dj := 147) rfl rfl rfl (Ent.func Try.call38 rfl) (sameLists_reads _ _ (g1.take k) (g1.take k) _ ((hW6.bss hA6).mono fun y hy => by simp at hy; rcases hy with hy | hy <;> simp [hy]) (bss_take (hr1.list.rs.mono fun y hy => by simp [hy]) (hr1.each.mono fun y hy => by simp [hy]) (by omega)) (by simp; omega)) ?_
                    refine WL.renamed (t := 152) (v := .bool true) rfl (congrArg Value.bool (by simp)) ?_
                    refine WL.y rfl (Yd.pickT rfl rfl) ?_
                    refine WL.y rfl (Yd.move rfl) ?_
                    refine WL.gr (dj := 154) rfl rfl rfl (Ent.func Try.call27 rfl) (known03 _) ?_
                    refine WL.y rfl (Yd.pickT rfl rfl) ?_
                    refine WL.y rfl (Yd.assign rfl) ?_
                    refine WL.nil ?_
                    refine DN.then_normal ?_
                    refine WC.ret ?_
                    refine DN.forget H (by (repeat (first | exact List.Sublist.refl _ | exact List.nil_sublist _ | apply List.Sublist.cons_cons | apply List.Sublist.cons | apply List.sublist_append_of_sublist_right))) ?_
                    refine DN.ret1 Try.results14 rfl ?_
                    exact ⟨rfl, rfl⟩
                  · have hk00 : k = 0 := by omega
                    refine WC.skip ?_
                    refine DN.then_normal ?_
                    refine WC.seq ?_
                    refine WC.region ?_
                    refine WL.y rfl (Yd.move rfl) ?_
                    refine WL.y rfl (Yd.eql rfl rfl) ?_
                    refine WL.renamed (t := 141) (v := .bool true) rfl (congrArg Value.bool (by simp)) ?_
                    refine WL.y rfl (Yd.move rfl) ?_
                    refine WL.gy (dj := 142) rfl rfl rfl (Yd.move rfl) ?_
                    refine WL.gy (dj := 142) rfl rfl rfl (Yd.move rfl) ?_
                    refine WL.gy (dj := 142) rfl rfl rfl (Yd.eql rfl rfl) ?_
                    refine WL.renamed (t := 145) (v := .bool true) rfl (congrArg Value.bool (decide_eq_true (by first | rfl | (simp only [hk00]; rfl)))) ?_
                    refine WL.y rfl (Yd.pickT rfl rfl) ?_
                    refine WL.y rfl (Yd.move rfl) ?_
                    refine WL.gy (dj := 147) rfl rfl rfl (Yd.move rfl) ?_
                    refine WL.gy (dj := 147) rfl rfl rfl (Yd.move rfl) ?_
                    refine WL.gy (dj := 147) rfl rfl rfl (Yd.move rfl) ?_
                    refine WL.gy (dj := 147) rfl rfl rfl (Yd.sliceTo (e := 22) (s := 1) (j := k) (by kernel_rfl) (by kernel_rfl) rfl rfl rfl (by omega)) ?_
                    refine WL.gr (dj := 147) rfl rfl rfl (Ent.func Try.call38 rfl) (sameLists_reads _ _ (g1.take k) (g1.take k) _ ((hW6.bss hA6).mono fun y hy => by simp at hy; rcases hy with hy | hy <;> simp [hy]) (bss_take (hr1.list.rs.mono fun y hy => by simp [hy]) (hr1.each.mono fun y hy => by simp [hy]) (by omega)) (by simp; omega)) ?_
                    refine WL.renamed (t := 152) (v := .bool true) rfl (congrArg Value.bool (by simp)) ?_
                    refine WL.y rfl (Yd.pickT rfl rfl) ?_
                    refine WL.y rfl (Yd.move rfl) ?_
                    refine WL.gr (dj := 154) rfl rfl rfl (Ent.func Try.call27 rfl) (known03 _) ?_
                    refine WL.y rfl (Yd.pickT rfl rfl) ?_
                    refine WL.y rfl (Yd.assign rfl) ?_
                    refine WL.nil ?_
                    refine DN.then_normal ?_
                    refine WC.ret ?_
                    refine DN.forget H (by (repeat (first | exact List.Sublist.refl _ | exact List.nil_sublist _ | apply List.Sublist.cons_cons | apply List.Sublist.cons | apply List.sublist_append_of_sublist_right))) ?_
                    refine DN.ret1 Try.results14 rfl ?_
                    exact ⟨rfl, rfl⟩
            · refine WL.gn (dj := 82) rfl rfl rfl rfl ?_
              refine WL.gn (dj := 82) rfl rfl rfl rfl ?_
              refine WL.gn (dj := 82) rfl rfl rfl rfl ?_
              refine WL.gn (dj := 82) rfl rfl rfl rfl ?_
              refine WL.gn (dj := 82) rfl rfl rfl rfl ?_
              refine WL.gn (dj := 82) rfl rfl rfl rfl ?_
              refine WL.y rfl (Yd.pickF rfl rfl) ?_
              refine WL.nil ?_
              refine DN.then_normal ?_
              refine WC.no rfl ?_
              refine WC.exit ?_
              refine DN.then_exit ?_
              refine DN.then_exit ?_
              refine DN.block_exit ?_
              refine DN.then_normal ?_
              refine WC.seq ?_
              refine WC.region ?_
              have hfin : turnedK M s by_ i = turnedAll M s by_ := by first | (exact (turnedK_past M s by_ i (by omega) 32 hi).symm) | (rw [show i = 32 by omega]; rfl)
              rw [hfin]
              have hML : (turnedAll M s by_).1.length = M.length := turnedK_length _ _ _ _
              have hbl : (P ++ ((turnedAll M s by_).1 ++ S)).length = (flat g1).length := by rw [hreg.eq]; simp [hML]
              have hOb : Ob 5 (.slice (some ⟨b0, 0, none⟩) (flat g1).length b1c) (P ++ ((turnedAll M s by_).1 ++ S)) [row b0 (bc (P ++ ((turnedAll M s by_).1 ++ S)) ++ extra) 5] := .inr ⟨b0, b1c, extra, by rw [hbl], by rw [hbl]; exact hc1, hc2, by rw [bc_length]; omega, by rw [hbl]; exact hx2, rfl⟩
              refine WL.y rfl (Yd.move rfl) ?_
              refine WL.ca rfl (Ent.func Try.call36 rfl) (all2_tells _ (P ++ ((turnedAll M s by_).1 ++ S)) _ (hOb.bs.mono fun y hy => by rw [List.mem_singleton.1 hy]; exact List.mem_cons_self) (by rw [hbl]; omega)) ?_
              rintro q H6 ⟨u6, ws6, A6, D6, rfl, hA6, hW6, rfl⟩
              refine WL.y rfl (Yd.move rfl) ?_
              refine WL.y rfl (Yd.extract rfl rfl) ?_
              refine WL.y rfl (Yd.extract rfl rfl) ?_
              refine WL.y rfl (Yd.extract rfl rfl) ?_
              refine WL.y rfl (Yd.assign rfl) ?_
              refine WL.y rfl (Yd.assign rfl) ?_
              refine WL.y rfl (Yd.assign rfl) ?_
              refine WL.nil ?_
              refine DN.then_normal ?_
              refine WC.seq ?_
              refine WC.seq ?_
              refine WC.region ?_
              refine WL.y rfl (Yd.move rfl) ?_
              refine WL.y rfl (Yd.notB rfl) ?_
              refine WL.nil ?_
              refine DN.then_normal ?_
              refine WC.cond rfl (fun h122 => ?_) (fun h122 => ?_)
              · have hall := hreg.same hr1.short s by_ (by simpa using h122)
                rw [hall] at hA6 hW6 ⊢
                obtain ⟨u6o, u6c, rfl, hu6c⟩ := hA6.form
                refine WC.seq ?_
                refine WC.region ?_
                refine WL.y rfl (Yd.move rfl) ?_
                refine WL.y rfl (Yd.eql rfl rfl) ?_
                refine WL.renamed (t := 124) (v := .bool true) rfl (congrArg Value.bool (by simp)) ?_
                refine WL.y rfl (Yd.move rfl) ?_
                refine WL.gy (dj := 125) rfl rfl rfl (Yd.move rfl) ?_
                refine WL.gy (dj := 125) rfl rfl rfl (Yd.move rfl) ?_
                refine WL.gr (dj := 125) rfl rfl rfl (Ent.func Try.call38 rfl) (sameLists_reads _ _ g1 g1 _ ((hW6.bss hA6).mono fun y hy => by simp at hy; rcases hy with hy | hy <;> simp [hy]) ((hr1.each.bss hr1.list).mono fun y hy => by simp at hy; rcases hy with hy | hy <;> simp [hy]) (by omega)) ?_
                refine WL.renamed (t := 128) (v := .bool true) rfl (congrArg Value.bool (by simp)) ?_
                refine WL.y rfl (Yd.pickT rfl rfl) ?_
                refine WL.y rfl (Yd.move rfl) ?_
                refine WL.gr (dj := 130) rfl rfl rfl (Ent.func Try.call27 rfl) (known03 _) ?_
                refine WL.y rfl (Yd.pickT rfl rfl) ?_
                refine WL.y rfl (Yd.assign rfl) ?_
                refine WL.nil ?_
                refine DN.then_normal ?_
                refine WC.ret ?_
                refine DN.then_ret ?_
                refine DN.forget H (by (repeat (first | exact List.Sublist.refl _ | exact List.nil_sublist _ | apply List.Sublist.cons_cons | apply List.Sublist.cons | apply List.sublist_append_of_sublist_right))) ?_
                refine DN.ret1 Try.results14 rfl ?_
                exact ⟨rfl, rfl⟩
              · have hall := hreg.turned s by_ hslt (by simpa using h122)
                rw [hall] at hA6 hW6 ⊢
                obtain ⟨u6o, u6c, rfl, hu6c⟩ := hA6.form
                refine WC.skip ?_
                refine DN.then_normal ?_
                refine WC.seq ?_
                refine WC.region ?_
                refine WL.y rfl (Yd.assign rfl) ?_
                refine WL.nil ?_
                refine DN.then_normal ?_
                refine WC.seq ?_
                refine WC.seq ?_
                refine WC.region ?_
                refine WL.y rfl (Yd.move rfl) ?_
                refine WL.y rfl (Yd.gtr rfl rfl) ?_
                refine WL.nil ?_
                refine DN.then_normal ?_
                refine WC.ite rfl (fun h134 => ?_) (fun h134 => ?_)
                · refine WC.region ?_
                  have hk0 : 0 < k := by omega
                  refine WL.y rfl (Yd.move rfl) ?_
                  refine WL.y rfl (Yd.move rfl) ?_
                  refine WL.y rfl (Yd.sub rfl rfl (by omega) (by omega)) ?_
                  refine WL.renamed (t := 137) (v := .int .i64 ((k - 1 : Nat) : Int)) rfl (congrArg (Value.int .i64) (by omega)) ?_
                  refine WL.elem (e := 3) (by kernel_rfl) (by kernel_rfl) (by kernel_rfl) rfl rfl (rfl) (hr1.ends.rs.mono fun y hy => by simp [hy]) ((by have := ends_cell g1 (k - 1) (by omega); rwa [show k - 1 + 1 = k by omega] at this)) (by omega) rfl rfl ?_
                  intro _
                  refine WL.y rfl (Yd.assign rfl) ?_
                  refine WL.nil ?_
                  refine DN.then_normal ?_
                  refine WC.seq ?_
                  refine WC.region ?_
                  refine WL.y rfl (Yd.move rfl) ?_
                  refine WL.y rfl (Yd.eql rfl rfl) ?_
                  refine WL.renamed (t := 141) (v := .bool true) rfl (congrArg Value.bool (by simp)) ?_
                  refine WL.y rfl (Yd.move rfl) ?_
                  refine WL.gy (dj := 142) rfl rfl rfl (Yd.move rfl) ?_
                  refine WL.gy (dj := 142) rfl rfl rfl (Yd.move rfl) ?_
                  refine WL.gy (dj := 142) rfl rfl rfl (Yd.eql rfl rfl) ?_
                  refine WL.renamed (t := 145) (v := .bool true) rfl (congrArg Value.bool (decide_eq_true (by first | rfl | (simp only [hk00]; rfl)))) ?_
                  refine WL.y rfl (Yd.pickT rfl rfl) ?_
                  refine WL.y rfl (Yd.move rfl) ?_
                  refine WL.gy (dj := 147) rfl rfl rfl (Yd.move rfl) ?_
                  refine WL.gy (dj := 147) rfl rfl rfl (Yd.move rfl) ?_
                  refine WL.gy (dj := 147) rfl rfl rfl (Yd.move rfl) ?_
                  refine WL.gy (dj := 147) rfl rfl rfl (Yd.sliceTo (e := 22) (s := 1) (j := k) (by kernel_rfl) (by kernel_rfl) rfl rfl rfl (by omega)) ?_
                  refine WL.gr (dj := 147) rfl rfl rfl (Ent.func Try.call38 rfl) (sameLists_reads _ _ (g1.take k) (g1.take k) _ ((hW6.bss hA6).mono fun y hy => by simp at hy; rcases hy with hy | hy <;> simp [hy]) (bss_take (hr1.list.rs.mono fun y hy => by simp [hy]) (hr1.each.mono fun y hy => by simp [hy]) (by omega)) (by simp; omega)) ?_
                  refine WL.renamed (t := 152) (v := .bool true) rfl (congrArg Value.bool (by simp)) ?_
                  refine WL.y rfl (Yd.pickT rfl rfl) ?_
                  refine WL.y rfl (Yd.move rfl) ?_
                  refine WL.gr (dj := 154) rfl rfl rfl (Ent.func Try.call27 rfl) (known03 _) ?_
                  refine WL.y rfl (Yd.pickT rfl rfl) ?_
                  refine WL.y rfl (Yd.assign rfl) ?_
                  refine WL.nil ?_
                  refine DN.then_normal ?_
                  refine WC.ret ?_
                  refine DN.forget H (by (repeat (first | exact List.Sublist.refl _ | exact List.nil_sublist _ | apply List.Sublist.cons_cons | apply List.Sublist.cons | apply List.sublist_append_of_sublist_right))) ?_
                  refine DN.ret1 Try.results14 rfl ?_
                  exact ⟨rfl, rfl⟩
                · have hk00 : k = 0 := by omega
                  refine WC.skip ?_
                  refine DN.then_normal ?_
                  refine WC.seq ?_
                  refine WC.region ?_
                  refine WL.y rfl (Yd.move rfl) ?_
                  refine WL.y rfl (Yd.eql rfl rfl) ?_
                  refine WL.renamed (t := 141) (v := .bool true) rfl (congrArg Value.bool (by simp)) ?_
                  refine WL.y rfl (Yd.move rfl) ?_
                  refine WL.gy (dj := 142) rfl rfl rfl (Yd.move rfl) ?_
                  refine WL.gy (dj := 142) rfl rfl rfl (Yd.move rfl) ?_
                  refine WL.gy (dj := 142) rfl rfl rfl (Yd.eql rfl rfl) ?_
                  refine WL.renamed (t := 145) (v := .bool true) rfl (congrArg Value.bool (decide_eq_true (by first | rfl | (simp only [hk00]; rfl)))) ?_
                  refine WL.y rfl (Yd.pickT rfl rfl) ?_
                  refine WL.y rfl (Yd.move rfl) ?_
                  refine WL.gy (dj := 147) rfl rfl rfl (Yd.move rfl) ?_
                  refine WL.gy (dj := 147) rfl rfl rfl (Yd.move rfl) ?_
                  refine WL.gy (dj := 147) rfl rfl rfl (Yd.move rfl) ?_
                  refine WL.gy (dj := 147) rfl rfl rfl (Yd.sliceTo (e := 22) (s := 1) (j := k) (by kernel_rfl) (by kernel_rfl) rfl rfl rfl (by omega)) ?_
                  refine WL.gr (dj := 147) rfl rfl rfl (Ent.func Try.call38 rfl) (sameLists_reads _ _ (g1.take k) (g1.take k) _ ((hW6.bss hA6).mono fun y hy => by simp at hy; rcases hy with hy | hy <;> simp [hy]) (bss_take (hr1.list.rs.mono fun y hy => by simp [hy]) (hr1.each.mono fun y hy => by simp [hy]) (by omega)) (by simp; omega)) ?_
                  refine WL.renamed (t := 152) (v := .bool true) rfl (congrArg Value.bool (by simp)) ?_
                  refine WL.y rfl (Yd.pickT rfl rfl) ?_
                  refine WL.y rfl (Yd.move rfl) ?_
                  refine WL.gr (dj := 154) rfl rfl rfl (Ent.func Try.call27 rfl) (known03 _) ?_
                  refine WL.y rfl (Yd.pickT rfl rfl) ?_
                  refine WL.y rfl (Yd.assign rfl) ?_
                  refine WL.nil ?_
                  refine DN.then_normal ?_
                  refine WC.ret ?_
                  refine DN.forget H (by (repeat (first | exact List.Sublist.refl _ | exact List.nil_sublist _ | apply List.Sublist.cons_cons | apply List.Sublist.cons | apply List.sublist_append_of_sublist_right))) ?_
                  refine DN.ret1 Try.results14 rfl ?_
                  exact ⟨rfl, rfl⟩
      · refine WO.h rfl Wt.none rfl (Hd.load1 (b := bg) (cs := csg.toList) (by kernel_rfl) rfl (List.mem_append_right _ (List.mem_append_left _ (by simpa using hmg))) (by simpa using hgk) ⟨_, rfl, ?_⟩)
        refine WA.y (i := 8) (NoPanic.then (NoPanic.body)) rfl (by kernel_rfl) (by kernel_rfl) (by kernel_rfl) rfl (Yd.len (e := 5) (by kernel_rfl) rfl) ?_
        refine WA.one (i := 3) (by kernel_rfl) ?_
        refine WO.h rfl Wt.none rfl (Hd.load1 (b := be) (cs := cse.toList) (by kernel_rfl) rfl (List.mem_append_right _ (List.mem_append_right _ (List.mem_append_left _ (by simpa using hme)))) (by simpa using hek) ⟨_, rfl, ?_⟩)
        refine WA.y (i := 9) (NoPanic.then (NoPanic.body)) rfl (by kernel_rfl) (by kernel_rfl) (by kernel_rfl) rfl (Yd.sub rfl rfl (by omega) (by omega)) ?_
        refine WA.renamed (t := 55) (v := .int .i64 (((flat (g1.take k)).length + 8 : Nat) : Int)) rfl (congrArg (Value.int .i64) (by omega)) ?_
        refine WA.y (i := 10) (NoPanic.then (NoPanic.body)) rfl (by kernel_rfl) (by kernel_rfl) (by kernel_rfl) rfl (Yd.assign rfl) ?_
        refine WA.done (by kernel_rfl) ?_
        refine DN.then_normal ?_
        refine WC.seq ?_
        refine WC.region ?_
        refine WL.y rfl (Yd.move rfl) ?_
        refine WL.y rfl (Yd.move rfl) ?_
        refine WL.elem (e := 3) (by kernel_rfl) (by kernel_rfl) (by kernel_rfl) rfl rfl (rfl) (hr1.ends.rs.mono fun y hy => by simp [hy]) (ends_cell g1 k hkl) (by omega) rfl rfl ?_
        intro _
        refine WL.y rfl (Yd.assign rfl) ?_
        refine WL.nil ?_
        refine DN.then_normal ?_
        refine WC.cut (fun z : List B8' × List B8' × List B8' => Reg g1 k z.1 z.2.1 z.2.2) (fun z => [(2, .int .i64 at_), (3, .int .u32 by_.toNat), (11, .slice b1o (flat g1).length b1c), (12, .slice (some ⟨bg, og, none⟩) g1.length vg1c), (13, .slice (some ⟨be, oe, none⟩) g1.length ve1c), (14, .int .i64 k), (15, .int .i64 z.1.length), (16, .int .i64 ((z.1.length + z.2.1.length : Nat) : Int))]) (fun _ => Cb1 ++ (Cg1 ++ (Ce1 ++ H))) ?_ ?_
        · refine WC.seq ?_
          refine WC.region ?_
          refine WL.y rfl (Yd.move rfl) ?_
          refine WL.nil ?_
          refine DN.then_normal ?_
          refine WC.cond rfl (fun h60 => ?_) (fun h60 => ?_)
          · refine WC.seq ?_
            refine WC.region ?_
            refine WL.y rfl (Yd.move rfl) ?_
            refine WL.y rfl (Yd.assign rfl) ?_
            refine WL.nil ?_
            refine DN.then_normal ?_
            refine WC.region ?_
            refine WL.y rfl (Yd.move rfl) ?_
            refine WL.y rfl (Yd.sub rfl rfl (by omega) (by omega)) ?_
            refine WL.y rfl (Yd.assign rfl) ?_
            refine WL.nil ?_
            refine DN.reach (flat (g1.take k) ++ ([215#8, 166#8] ++ be2 g1[k].length), be4 (crcOf (be2 g1[k].length ++ g1[k])), g1[k] ++ flat (g1.drop (k + 1))) (Reg.sum g1 hr1.short k hkl) ⟨rfl, rfl, rfl, rfl, rfl, rfl, ?_, ?_, trivial⟩ (List.Perm.refl _)
            · refine congrArg (fun x => some (Value.int .i64 x)) ?_
              simp only [List.length_append, List.length_cons, List.length_nil, be2_length]; omega
            · refine congrArg (fun x => some (Value.int .i64 x)) ?_
              simp only [List.length_append, List.length_cons, List.length_nil, be2_length, be4_length]
          · refine WC.skip ?_
            refine DN.reach (flat (g1.take k) ++ ([215#8, 166#8] ++ be2 g1[k].length ++ be4 (crcOf (be2 g1[k].length ++ g1[k]))), g1[k], flat (g1.drop (k + 1))) (Reg.body g1 hr1.short k hkl) ⟨rfl, rfl, rfl, rfl, rfl, rfl, ?_, ?_, trivial⟩ (List.Perm.refl _)
            · refine congrArg (fun x => some (Value.int .i64 x)) ?_
              simp only [List.length_append, List.length_cons, List.length_nil, be2_length, be4_length]
            · refine congrArg (fun x => some (Value.int .i64 x)) ?_
              simp only [List.length_append, List.length_cons, List.length_nil, be2_length, be4_length]; omega
        · rintro ⟨P, M, S⟩ hreg
          dsimp only at hreg ⊢
          refine WC.seq ?_
          refine WC.seq ?_
          refine WC.region ?_
          refine WL.y rfl (Yd.move rfl) ?_
          refine WL.y rfl (Yd.move rfl) ?_
          refine WL.y rfl (Yd.eql rfl rfl) ?_
          refine WL.nil ?_
          refine DN.then_normal ?_
          refine WC.ite rfl (fun h66 => ?_) (fun h66 => ?_)
          · refine WC.seq ?_
            refine WC.region ?_
            refine WL.r rfl (Ent.func Try.call27 rfl) (known03 _) ?_
            refine WL.y rfl (Yd.assign rfl) ?_
            refine WL.nil ?_
            refine DN.then_normal ?_
            refine WC.ret ?_
            refine DN.then_ret ?_
            refine DN.forget H (by (repeat (first | exact List.Sublist.refl _ | exact List.nil_sublist _ | apply List.Sublist.cons_cons | apply List.Sublist.cons | apply List.sublist_append_of_sublist_right))) ?_
            refine DN.ret1 Try.results14 rfl ?_
            exact ⟨rfl, rfl⟩
          · refine WC.skip ?_
            refine DN.then_normal ?_
            refine WC.seq ?_
            refine WC.region ?_
            obtain ⟨s, hs⟩ : ∃ s, s = startOf at_ M.length := ⟨_, rfl⟩
            have hMpos : 0 < M.length := by omega
            have hMl := hreg.len
            have hPM : P.length + M.length ≤ (flat g1).length := by rw [hreg.eq]; simp only [List.length_append]; omega
            have hslt : s < 8 * M.length := by rw [hs]; exact startOf_lt at_ hMpos (by omega)
            have hrows := hr1.bytes
            rcases hrows with ⟨_, h0, _⟩ | ⟨b0, cap, extra, he, hc1, hc2, hx1, hx2, hCb⟩
            · omega
            simp only [Value.slice.injEq] at he
            obtain ⟨rfl, _, rfl⟩ := he
            subst hCb
            refine WL.y rfl (Yd.move rfl) ?_
            refine WL.y rfl (Yd.mul rfl rfl (by omega) (by omega)) ?_
            refine WL.y rfl (Yd.move rfl) ?_
            refine WL.y rfl (Yd.to64 (BitVec.ofInt 64 at_) (by kernel_rfl) (by kernel_rfl) rfl rfl) ?_
            refine WL.y rfl (Yd.move rfl) ?_
            refine WL.y rfl (Yd.move rfl) ?_
            refine WL.y rfl (Yd.sub rfl rfl (by omega) (by omega)) ?_
            refine WL.y rfl (Yd.mul rfl rfl (by omega) (by omega)) ?_
            refine WL.renamed (t := 75) (v := .int .i64 ((8 * M.length : Nat) : Int)) rfl (congrArg (Value.int .i64) (by omega)) ?_
            refine WL.y rfl (Yd.to64 (BitVec.ofNat 64 (8 * M.length)) (by kernel_rfl) (by kernel_rfl) rfl (ofInt_nat _)) ?_
            refine WL.y rfl (Yd.rem64 (BitVec.ofInt 64 at_) (BitVec.ofNat 64 (8 * M.length)) rfl rfl rfl rfl (by rw [ofNat_toNat (by omega)]; omega)) ?_
            refine WL.y rfl (Yd.toInt (m := (s : Int)) (by kernel_rfl) (by kernel_rfl) (by rw [hs]; rfl) (by omega) (by omega)) ?_
            refine WL.y rfl (Yd.add rfl rfl (by omega) (by omega)) ?_
            refine WL.renamed (t := 79) (v := .int .i64 ((8 * P.length + s : Nat) : Int)) rfl (congrArg (Value.int .i64) (by omega)) ?_
            refine WL.y rfl (Yd.assign rfl) ?_
            refine WL.nil ?_
            refine DN.then_normal ?_
            refine WC.seq ?_
            refine WC.region ?_
            refine WL.y rfl (Yd.assign rfl) ?_
            refine WL.nil ?_
            refine DN.then_normal ?_
            refine WC.seq ?_
            refine WC.seq ?_
            refine WC.region ?_
            refine WL.y rfl (Yd.assign rfl) ?_
            refine WL.nil ?_
            refine DN.then_normal ?_
            refine WC.block ?_
            rw [hreg.eq] at hx1
            refine WC.loop (fun i : Nat => i ≤ 32) (fun i => [(3, .int .u32 by_.toNat), (11, .slice (some ⟨b0, 0, none⟩) (flat g1).length b1c), (12, .slice (some ⟨bg, og, none⟩) g1.length vg1c), (13, .slice (some ⟨be, oe, none⟩) g1.length ve1c), (14, .int .i64 k), (16, .int .i64 ((P.length + M.length : Nat) : Int)), (17, .int .i64 ((8 * P.length + s : Nat) : Int)), (18, .bool (turnedK M s by_ i).2), (19, .int .i64 i)]) (fun i => row b0 (bc (P ++ ((turnedK M s by_ i).1 ++ S)) ++ extra) 5 :: (Cg1 ++ (Ce1 ++ H))) (fun i => 32 - i) 0 (Nat.zero_le _) ⟨rfl, rfl, rfl, rfl, rfl, rfl, rfl, rfl, rfl, trivial⟩ (by rw [hreg.eq]; exact List.Perm.refl _) ?_
            intro i hi
            refine WC.seq ?_
            refine WC.seq ?_
            refine WC.region ?_
            refine WL.y rfl (Yd.move rfl) ?_
            refine WL.y rfl (Yd.lss rfl rfl) ?_
            refine WL.y rfl (Yd.move rfl) ?_
            refine WL.partP (t := 82) rfl (fun hg82 => ?_) (fun hg82 => ?_)
            · refine WL.gy (dj := 82) rfl rfl rfl (Yd.move rfl) ?_
              refine WL.gy (dj := 82) rfl rfl rfl (Yd.move rfl) ?_
              refine WL.gy (dj := 82) rfl rfl rfl (Yd.add rfl rfl (by omega) (by omega)) ?_
              refine WL.gy (dj := 82) rfl rfl rfl (Yd.move rfl) ?_
              refine WL.gy (dj := 82) rfl rfl rfl (Yd.mul rfl rfl (by omega) (by omega)) ?_
              refine WL.gy (dj := 82) rfl rfl rfl (Yd.lss rfl rfl) ?_
              refine WL.y rfl (Yd.pickT rfl rfl) ?_
              refine WL.nil ?_
              refine DN.then_normal ?_
              refine WC.ite rfl (fun h89 => ?_) (fun h89 => ?_)
              · have h89n : s + i < 8 * M.length := by omega
                refine WC.skip ?_
                refine DN.then_normal ?_
                refine WC.seq ?_
                refine WC.block ?_
                refine WC.seq ?_
                refine WC.region ?_
                refine WL.y rfl (Yd.move rfl) ?_
                refine WL.y rfl (Yd.move rfl) ?_
                refine WL.y rfl (Yd.to64 (BitVec.ofNat 64 i) (by kernel_rfl) (by kernel_rfl) rfl (ofInt_nat i)) ?_
                refine WL.y rfl (Yd.shr32 _ i rfl rfl rfl (by rw [ofNat_toNat (by omega)])) ?_
                refine WL.y rfl (Yd.and32 _ (1#32) rfl rfl rfl rfl) ?_
                refine WL.y rfl (Yd.eql32 _ (1#32) rfl rfl rfl rfl) ?_
                refine WL.nil ?_
                refine DN.then_normal ?_
                refine WC.ite rfl (fun h97 => ?_) (fun h97 => ?_)
                · have hyes := turnedK_yes M s by_ i h89n h97
                  have hL := turnedK_length M s by_ i
                  have hq : (s + i) / 8 < M.length := by omega
                  refine WC.seq ?_
                  refine WC.region ?_
                  refine WL.y rfl (Yd.move rfl) ?_
                  refine WL.y rfl (Yd.move rfl) ?_
                  refine WL.y rfl (Yd.add rfl rfl (by omega) (by omega)) ?_
                  refine WL.y rfl (Yd.assign rfl) ?_
                  refine WL.nil ?_
                  refine DN.then_normal ?_
                  refine WC.seq ?_
                  refine WC.region ?_
                  refine WL.y rfl (Yd.move rfl) ?_
                  refine WL.y rfl (Yd.move rfl) ?_
                  refine WL.y rfl (Yd.quo rfl rfl (by omega) (by omega) (by omega)) ?_
                  refine WL.renamed (t := 103) (v := .int .i64 ((P.length + (s + i) / 8 : Nat) : Int)) rfl (congrArg (Value.int .i64) (by omega)) ?_
                  refine WL.y rfl (Yd.move rfl) ?_
                  refine WL.y rfl (Yd.move rfl) ?_
                  refine WL.y rfl (Yd.quo rfl rfl (by omega) (by omega) (by omega)) ?_
                  refine WL.renamed (t := 106) (v := .int .i64 ((P.length + (s + i) / 8 : Nat) : Int)) rfl (congrArg (Value.int .i64) (by omega)) ?_
                  refine WL.y rfl (Yd.indexAddr (e := 5) (s := 1) (by kernel_rfl) (by kernel_rfl) rfl rfl (by omega) (by omega)) ?_
                  refine WL.h rfl (Hd.load1 (v := .int .u8 ((turnedK M s by_ i).1.getD ((s + i) / 8) 0#8).toNat) (b := b0) (cs := bc (P ++ ((turnedK M s by_ i).1 ++ S)) ++ extra) (by kernel_rfl) rfl List.mem_cons_self (by rw [show 0 + ((P.length + (s + i) / 8 : Nat) : Int).toNat * 1 = P.length + (s + i) / 8 by omega]; exact mid_get _ _ _ _ _ (by omega)) ⟨_, rfl, ?_⟩)
                  refine WL.y rfl (Yd.move rfl) ?_
                  refine WL.y rfl (Yd.rem rfl rfl (by omega) (by omega)) ?_
                  refine WL.renamed (t := 110) (v := .int .i64 (((s + i) % 8 : Nat) : Int)) rfl (congrArg (Value.int .i64) (by omega)) ?_
                  refine WL.y rfl (Yd.to64 (BitVec.ofNat 64 ((s + i) % 8)) (by kernel_rfl) (by kernel_rfl) rfl (ofInt_nat _)) ?_
                  refine WL.y rfl (Yd.shl8 (1#8) ((s + i) % 8) rfl rfl rfl (by rw [ofNat_toNat (by omega)])) ?_
                  refine WL.y rfl (Yd.xor8 _ _ rfl rfl rfl rfl) ?_
                  refine WL.y rfl (Yd.indexAddr (e := 5) (s := 1) (by kernel_rfl) (by kernel_rfl) rfl rfl (by omega) (by omega)) ?_
                  refine WL.s (Hd.store1 (b := b0) (cs := bc (P ++ ((turnedK M s by_ i).1 ++ S)) ++ extra) (T' := 5) (D := Cg1 ++ (Ce1 ++ H)) (by kernel_rfl) rfl rfl rfl (List.Perm.refl _) (by simp [bc_length]; omega) ⟨rfl, ?_⟩)
                  refine WL.nil ?_
                  refine DN.then_normal ?_
                  refine WC.region ?_
                  refine WL.y rfl (Yd.assign rfl) ?_
                  refine WL.nil ?_
                  refine DN.block_normal ?_
                  refine DN.then_normal ?_
                  refine WC.region ?_
                  refine WL.y rfl (Yd.move rfl) ?_
                  refine WL.y rfl (Yd.add rfl rfl (by omega) (by omega)) ?_
                  refine WL.y rfl (Yd.assign rfl) ?_
                  refine WL.nil ?_
                  refine DN.again (i + 1) (by omega) (by omega) ⟨rfl, rfl, rfl, rfl, rfl, rfl, rfl, by rw [hyes]; rfl, rfl, trivial⟩ ?_
                  rw [hyes, show 0 + ((P.length + (s + i) / 8 : Nat) : Int).toNat * 1 = P.length + (s + i) / 8 by omega, mid_set _ _ _ _ _ _ (by omega)]
                  exact List.Perm.refl _
                · have hno := turnedK_no M s by_ i h97
                  refine WC.skip ?_
                  refine DN.block_normal ?_
                  refine DN.then_normal ?_
                  refine WC.region ?_
                  refine WL.y rfl (Yd.move rfl) ?_
                  refine WL.y rfl (Yd.add rfl rfl (by omega) (by omega)) ?_
                  refine WL.y rfl (Yd.assign rfl) ?_
                  refine WL.nil ?_
                  refine DN.again (i + 1) (by omega) (by omega) ⟨rfl, rfl, rfl, rfl, rfl, rfl, rfl, by rw [hno]; rfl, rfl, trivial⟩ ?_
                  rw [hno]
              · refine WC.exit ?_
                refine DN.then_exit ?_
                refine DN.then_exit ?_
                refine DN.block_exit ?_
                refine DN.then_normal ?_
                refine WC.seq ?_
                refine WC.region ?_
                have hfin : turnedK M s by_ i = turnedAll M s by_ := by first | (exact (turnedK_past M s by_ i (by omega) 32 hi).symm) | (rw [show i = 32 by omega]; rfl)
                rw [hfin]
                have hML : (turnedAll M s by_).1.length = M.length := turnedK_length _ _ _ _
                have hbl : (P ++ ((turnedAll M s by_).1 ++ S)).length = (flat g1).length := by rw [hreg.eq]; simp [hML]
                have hOb : Ob 5 (.slice (some ⟨b0, 0, none⟩) (flat g1).length b1c) (P ++ ((turnedAll M s by_).1 ++ S)) [row b0 (bc (P ++ ((turnedAll M s by_).1 ++ S)) ++ extra) 5] := .inr ⟨b0, b1c, extra, by rw [hbl], by rw [hbl]; exact hc1, hc2, by rw [bc_length]; omega, by rw [hbl]; exact hx2, rfl⟩
                refine WL.y rfl (Yd.move rfl) ?_
                refine WL.ca rfl (Ent.func Try.call36 rfl) (all2_tells _ (P ++ ((turnedAll M s by_).1 ++ S)) _ (hOb.bs.mono fun y hy => by rw [List.mem_singleton.1 hy]; exact List.mem_cons_self) (by rw [hbl]; omega)) ?_
                rintro q H6 ⟨u6, ws6, A6, D6, rfl, hA6, hW6, rfl⟩
                refine WL.y rfl (Yd.move rfl) ?_
                refine WL.y rfl (Yd.extract rfl rfl) ?_
                refine WL.y rfl (Yd.extract rfl rfl) ?_
                refine WL.y rfl (Yd.extract rfl rfl) ?_
                refine WL.y rfl (Yd.assign rfl) ?_
                refine WL.y rfl (Yd.assign rfl) ?_
                refine WL.y rfl (Yd.assign rfl) ?_
                refine WL.nil ?_
                refine DN.then_normal ?_
                refine WC.seq ?_
                refine WC.seq ?_
                refine WC.region ?_
                refine WL.y rfl (Yd.move rfl) ?_
                refine WL.y rfl (Yd.notB rfl) ?_
                refine WL.nil ?_
                refine DN.then_normal ?_
                refine WC.cond rfl (fun h122 => ?_) (fun h122 => ?_)
                · have hall := hreg.same hr1.short s by_ (by simpa using h122)
                  rw [hall] at hA6 hW6 ⊢
                  obtain ⟨u6o, u6c, rfl, hu6c⟩ := hA6.form
                  refine WC.seq ?_
                  refine WC.region ?_
                  refine WL.y rfl (Yd.move rfl) ?_
                  refine WL.y rfl (Yd.eql rfl rfl) ?_
                  refine WL.renamed (t := 124) (v := .bool true) rfl (congrArg Value.bool (by simp)) ?_
                  refine WL.y rfl (Yd.move rfl) ?_
                  refine WL.gy (dj := 125) rfl rfl rfl (Yd.move rfl) ?_
                  refine WL.gy (dj := 125) rfl rfl rfl (Yd.move rfl) ?_
                  refine WL.gr (dj := 125) rfl rfl rfl (Ent.func Try.call38 rfl) (sameLists_reads _ _ g1 g1 _ ((hW6.bss hA6).mono fun y hy => by simp at hy; rcases hy with hy | hy <;> simp [hy]) ((hr1.each.bss hr1.list).mono fun y hy => by simp at hy; rcases hy with hy | hy <;> simp [hy]) (by omega)) ?_
                  refine WL.renamed (t := 128) (v := .bool true) rfl (congrArg Value.bool (by simp)) ?_
                  refine WL.y rfl (Yd.pickT rfl rfl) ?_
                  refine WL.y rfl (Yd.move rfl) ?_
                  refine WL.gr (dj := 130) rfl rfl rfl (Ent.func Try.call27 rfl) (known03 _) ?_
                  refine WL.y rfl (Yd.pickT rfl rfl) ?_
                  refine WL.y rfl (Yd.assign rfl) ?_
                  refine WL.nil ?_
                  refine DN.then_normal ?_
                  refine WC.ret ?_
                  refine DN.then_ret ?_
                  refine DN.forget H (by (repeat (first | exact List.Sublist.refl _ | exact List.nil_sublist _ | apply List.Sublist.cons_cons | apply List.Sublist.cons | apply List.sublist_append_of_sublist_right))) ?_
                  refine DN.ret1 Try.results14 rfl ?_
                  exact ⟨rfl, rfl⟩
                · have hall := hreg.turned s by_ hslt (by simpa using h122)
                  rw [hall] at hA6 hW6 ⊢
                  obtain ⟨u6o, u6c, rfl, hu6c⟩ := hA6.form
                  refine WC.skip ?_
                  refine DN.then_normal ?_
                  refine WC.seq ?_
                  refine WC.region ?_
                  refine WL.y rfl (Yd.assign rfl) ?_
                  refine WL.nil ?_
                  refine DN.then_normal ?_
                  refine WC.seq ?_
                  refine WC.seq ?_
                  refine WC.region ?_
                  refine WL.y rfl (Yd.move rfl) ?_
                  refine WL.y rfl (Yd.gtr rfl rfl) ?_
                  refine WL.nil ?_
                  refine DN.then_normal ?_
                  refine WC.ite rfl (fun h134 => ?_) (fun h134 => ?_)
                  · refine WC.region ?_
                    have hk0 : 0 < k := by omega
                    refine WL.y rfl (Yd.move rfl) ?_
                    refine WL.y rfl (Yd.move rfl) ?_
                    refine WL.y rfl (Yd.sub rfl rfl (by omega) (by omega)) ?_
                    refine WL.renamed (t := 137) (v := .int .i64 ((k - 1 : Nat) : Int)) rfl (congrArg (Value.int .i64) (by omega)) ?_
                    refine WL.elem (e := 3) (by kernel_rfl) (by kernel_rfl) (by kernel_rfl) rfl rfl (rfl) (hr1.ends.rs.mono fun y hy => by simp [hy]) ((by have := ends_cell g1 (k - 1) (by omega); rwa [show k - 1 + 1 = k by omega] at this)) (by omega) rfl rfl ?_
                    intro _
                    refine WL.y rfl (Yd.assign rfl) ?_
                    refine WL.nil ?_
                    refine DN.then_normal ?_
                    refine WC.seq ?_
                    refine WC.region ?_
                    refine WL.y rfl (Yd.move rfl) ?_
                    refine WL.y rfl (Yd.eql rfl rfl) ?_
                    refine WL.renamed (t := 141) (v := .bool true) rfl (congrArg Value.bool (by simp)) ?_
                    refine WL.y rfl (Yd.move rfl) ?_
                    refine WL.gy (dj := 142) rfl rfl rfl (Yd.move rfl) ?_
                    refine WL.gy (dj := 142) rfl rfl rfl (Yd.move rfl) ?_
                    refine WL.gy (dj := 142) rfl rfl rfl (Yd.eql rfl rfl) ?_
                    refine WL.renamed (t := 145) (v := .bool true) rfl (congrArg Value.bool (decide_eq_true (by first | rfl | (simp only [hk00]; rfl)))) ?_
                    refine WL.y rfl (Yd.pickT rfl rfl) ?_
                    refine WL.y rfl (Yd.move rfl) ?_
                    refine WL.gy (dj := 147) rfl rfl rfl (Yd.move rfl) ?_
                    refine WL.gy (dj := 147) rfl rfl rfl (Yd.move rfl) ?_
                    refine WL.gy (dj := 147) rfl rfl rfl (Yd.move rfl) ?_
                    refine WL.gy (dj := 147) rfl rfl rfl (Yd.sliceTo (e := 22) (s := 1) (j := k) (by kernel_rfl) (by kernel_rfl) rfl rfl rfl (by omega)) ?_
                    refine WL.gr (dj := 147) rfl rfl rfl (Ent.func Try.call38 rfl) (sameLists_reads _ _ (g1.take k) (g1.take k) _ ((hW6.bss hA6).mono fun y hy => by simp at hy; rcases hy with hy | hy <;> simp [hy]) (bss_take (hr1.list.rs.mono fun y hy => by simp [hy]) (hr1.each.mono fun y hy => by simp [hy]) (by omega)) (by simp; omega)) ?_
                    refine WL.renamed (t := 152) (v := .bool true) rfl (congrArg Value.bool (by simp)) ?_
                    refine WL.y rfl (Yd.pickT rfl rfl) ?_
                    refine WL.y rfl (Yd.move rfl) ?_
                    refine WL.gr (dj := 154) rfl rfl rfl (Ent.func Try.call27 rfl) (known03 _) ?_
                    refine WL.y rfl (Yd.pickT rfl rfl) ?_
                    refine WL.y rfl (Yd.assign rfl) ?_
                    refine WL.nil ?_
                    refine DN.then_normal ?_
                    refine WC.ret ?_
                    refine DN.forget H (by (repeat (first | exact List.Sublist.refl _ | exact List.nil_sublist _ | apply List.Sublist.cons_cons | apply List.Sublist.cons | apply List.sublist_append_of_sublist_right))) ?_
                    refine DN.ret1 Try.results14 rfl ?_
                    exact ⟨rfl, rfl⟩
                  · have hk00 : k = 0 := by omega
                    refine WC.skip ?_
                    refine DN.then_normal ?_
                    refine WC.seq ?_
                    refine WC.region ?_
                    refine WL.y rfl (Yd.move rfl) ?_
                    refine WL.y rfl (Yd.eql rfl rfl) ?_
                    refine WL.renamed (t := 141) (v := .bool true) rfl (congrArg Value.bool (by simp)) ?_
                    refine WL.y rfl (Yd.move rfl) ?_
                    refine WL.gy (dj := 142) rfl rfl rfl (Yd.move rfl) ?_
                    refine WL.gy (dj := 142) rfl rfl rfl (Yd.move rfl) ?_
                    refine WL.gy (dj := 142) rfl rfl rfl (Yd.eql rfl rfl) ?_
                    refine WL.renamed (t := 145) (v := .bool true) rfl (congrArg Value.bool (decide_eq_true (by first | rfl | (simp only [hk00]; rfl)))) ?_
                    refine WL.y rfl (Yd.pickT rfl rfl) ?_
                    refine WL.y rfl (Yd.move rfl) ?_
                    refine WL.gy (dj := 147) rfl rfl rfl (Yd.move rfl) ?_
                    refine WL.gy (dj := 147) rfl rfl rfl (Yd.move rfl) ?_
                    refine WL.gy (dj := 147) rfl rfl rfl (Yd.move rfl) ?_
                    refine WL.gy (dj := 147) rfl rfl rfl (Yd.sliceTo (e := 22) (s := 1) (j := k) (by kernel_rfl) (by kernel_rfl) rfl rfl rfl (by omega)) ?_
                    refine WL.gr (dj := 147) rfl rfl rfl (Ent.func Try.call38 rfl) (sameLists_reads _ _ (g1.take k) (g1.take k) _ ((hW6.bss hA6).mono fun y hy => by simp at hy; rcases hy with hy | hy <;> simp [hy]) (bss_take (hr1.list.rs.mono fun y hy => by simp [hy]) (hr1.each.mono fun y hy => by simp [hy]) (by omega)) (by simp; omega)) ?_
                    refine WL.renamed (t := 152) (v := .bool true) rfl (congrArg Value.bool (by simp)) ?_
                    refine WL.y rfl (Yd.pickT rfl rfl) ?_
                    refine WL.y rfl (Yd.move rfl) ?_
                    refine WL.gr (dj := 154) rfl rfl rfl (Ent.func Try.call27 rfl) (known03 _) ?_
                    refine WL.y rfl (Yd.pickT rfl rfl) ?_
                    refine WL.y rfl (Yd.assign rfl) ?_
                    refine WL.nil ?_
                    refine DN.then_normal ?_
                    refine WC.ret ?_
                    refine DN.forget H (by (repeat (first | exact List.Sublist.refl _ | exact List.nil_sublist _ | apply List.Sublist.cons_cons | apply List.Sublist.cons | apply List.sublist_append_of_sublist_right))) ?_
                    refine DN.ret1 Try.results14 rfl ?_
                    exact ⟨rfl, rfl⟩
            · refine WL.gn (dj := 82) rfl rfl rfl rfl ?_
              refine WL.gn (dj := 82) rfl rfl rfl rfl ?_
              refine WL.gn (dj := 82) rfl rfl rfl rfl ?_
              refine WL.gn (dj := 82) rfl rfl rfl rfl ?_
              refine WL.gn (dj := 82) rfl rfl rfl rfl ?_
              refine WL.gn (dj := 82) rfl rfl rfl rfl ?_
              refine WL.y rfl (Yd.pickF rfl rfl) ?_
              refine WL.nil ?_
              refine DN.then_normal ?_
              refine WC.no rfl ?_
              refine WC.exit ?_
              refine DN.then_exit ?_
              refine DN.then_exit ?_
              refine DN.block_exit ?_
              refine DN.then_normal ?_
              refine WC.seq ?_
              refine WC.region ?_
              have hfin : turnedK M s by_ i = turnedAll M s by_ := by first | (exact (turnedK_past M s by_ i (by omega) 32 hi).symm) | (rw [show i = 32 by omega]; rfl)
              rw [hfin]
              have hML : (turnedAll M s by_).1.length = M.length := turnedK_length _ _ _ _
              have hbl : (P ++ ((turnedAll M s by_).1 ++ S)).length = (flat g1).length := by rw [hreg.eq]; simp [hML]
              have hOb : Ob 5 (.slice (some ⟨b0, 0, none⟩) (flat g1).length b1c) (P ++ ((turnedAll M s by_).1 ++ S)) [row b0 (bc (P ++ ((turnedAll M s by_).1 ++ S)) ++ extra) 5] := .inr ⟨b0, b1c, extra, by rw [hbl], by rw [hbl]; exact hc1, hc2, by rw [bc_length]; omega, by rw [hbl]; exact hx2, rfl⟩
              refine WL.y rfl (Yd.move rfl) ?_
              refine WL.ca rfl (Ent.func Try.call36 rfl) (all2_tells _ (P ++ ((turnedAll M s by_).1 ++ S)) _ (hOb.bs.mono fun y hy => by rw [List.mem_singleton.1 hy]; exact List.mem_cons_self) (by rw [hbl]; omega)) ?_
              rintro q H6 ⟨u6, ws6, A6, D6, rfl, hA6, hW6, rfl⟩
              refine WL.y rfl (Yd.move rfl) ?_
              refine WL.y rfl (Yd.extract rfl rfl) ?_
              refine WL.y rfl (Yd.extract rfl rfl) ?_
              refine WL.y rfl (Yd.extract rfl rfl) ?_
              refine WL.y rfl (Yd.assign rfl) ?_
              refine WL.y rfl (Yd.assign rfl) ?_
              refine WL.y rfl (Yd.assign rfl) ?_
              refine WL.nil ?_
              refine DN.then_normal ?_
              refine WC.seq ?_
              refine WC.seq ?_
              refine WC.region ?_
              refine WL.y rfl (Yd.move rfl) ?_
              refine WL.y rfl (Yd.notB rfl) ?_
              refine WL.nil ?_
              refine DN.then_normal ?_
              refine WC.cond rfl (fun h122 => ?_) (fun h122 => ?_)
              · have hall := hreg.same hr1.short s by_ (by simpa using h122)
                rw [hall] at hA6 hW6 ⊢
                obtain ⟨u6o, u6c, rfl, hu6c⟩ := hA6.form
                refine WC.seq ?_
                refine WC.region ?_
                refine WL.y rfl (Yd.move rfl) ?_
                refine WL.y rfl (Yd.eql rfl rfl) ?_
                refine WL.renamed (t := 124) (v := .bool true) rfl (congrArg Value.bool (by simp)) ?_
                refine WL.y rfl (Yd.move rfl) ?_
                refine WL.gy (dj := 125) rfl rfl rfl (Yd.move rfl) ?_
                refine WL.gy (dj := 125) rfl rfl rfl (Yd.move rfl) ?_
                refine WL.gr (dj := 125) rfl rfl rfl (Ent.func Try.call38 rfl) (sameLists_reads _ _ g1 g1 _ ((hW6.bss hA6).mono fun y hy => by simp at hy; rcases hy with hy | hy <;> simp [hy]) ((hr1.each.bss hr1.list).mono fun y hy => by simp at hy; rcases hy with hy | hy <;> simp [hy]) (by omega)) ?_
                refine WL.renamed (t := 128) (v := .bool true) rfl (congrArg Value.bool (by simp)) ?_
                refine WL.y rfl (Yd.pickT rfl rfl) ?_
                refine WL.y rfl (Yd.move rfl) ?_
                refine WL.gr (dj := 130) rfl rfl rfl (Ent.func Try.call27 rfl) (known03 _) ?_
                refine WL.y rfl (Yd.pickT rfl rfl) ?_
                refine WL.y rfl (Yd.assign rfl) ?_
                refine WL.nil ?_
                refine DN.then_normal ?_
                refine WC.ret ?_
                refine DN.then_ret ?_
                refine DN.forget H (by (repeat (first | exact List.Sublist.refl _ | exact List.nil_sublist _ | apply List.Sublist.cons_cons | apply List.Sublist.cons | apply List.sublist_append_of_sublist_right))) ?_
                refine DN.ret1 Try.results14 rfl ?_
                exact ⟨rfl, rfl⟩
              · have hall := hreg.turned s by_ hslt (by simpa using h122)
                rw [hall] at hA6 hW6 ⊢
                obtain ⟨u6o, u6c, rfl, hu6c⟩ := hA6.form
                refine WC.skip ?_
                refine DN.then_normal ?_
                refine WC.seq ?_
                refine WC.region ?_
                refine WL.y rfl (Yd.assign rfl) ?_
                refine WL.nil ?_
                refine DN.then_normal ?_
                refine WC.seq ?_
                refine WC.seq ?_
                refine WC.region ?_
                refine WL.y rfl (Yd.move rfl) ?_
                refine WL.y rfl (Yd.gtr rfl rfl) ?_
                refine WL.nil ?_
                refine DN.then_normal ?_
                refine WC.ite rfl (fun h134 => ?_) (fun h134 => ?_)
                · refine WC.region ?_
                  have hk0 : 0 < k := by omega
                  refine WL.y rfl (Yd.move rfl) ?_
                  refine WL.y rfl (Yd.move rfl) ?_
                  refine WL.y rfl (Yd.sub rfl rfl (by omega) (by omega)) ?_
                  refine WL.renamed (t := 137) (v := .int .i64 ((k - 1 : Nat) : Int)) rfl (congrArg (Value.int .i64) (by omega)) ?_
                  refine WL.elem (e := 3) (by kernel_rfl) (by kernel_rfl) (by kernel_rfl) rfl rfl (rfl) (hr1.ends.rs.mono fun y hy => by simp [hy]) ((by have := ends_cell g1 (k - 1) (by omega); rwa [show k - 1 + 1 = k by omega] at this)) (by omega) rfl rfl ?_
                  intro _
                  refine WL.y rfl (Yd.assign rfl) ?_
                  refine WL.nil ?_
                  refine DN.then_normal ?_
                  refine WC.seq ?_
                  refine WC.region ?_
                  refine WL.y rfl (Yd.move rfl) ?_
                  refine WL.y rfl (Yd.eql rfl rfl) ?_
                  refine WL.renamed (t := 141) (v := .bool true) rfl (congrArg Value.bool (by simp)) ?_
                  refine WL.y rfl (Yd.move rfl) ?_
                  refine WL.gy (dj := 142) rfl rfl rfl (Yd.move rfl) ?_
                  refine WL.gy (dj := 142) rfl rfl rfl (Yd.move rfl) ?_
                  refine WL.gy (dj := 142) rfl rfl rfl (Yd.eql rfl rfl) ?_
                  refine WL.renamed (t := 145) (v := .bool true) rfl (congrArg Value.bool (decide_eq_true (by first | rfl | (simp only [hk00]; rfl)))) ?_
                  refine WL.y rfl (Yd.pickT rfl rfl) ?_
                  refine WL.y rfl (Yd.move rfl) ?_
                  refine WL.gy (dj := 147) rfl rfl rfl (Yd.move rfl) ?_
                  refine WL.gy (dj := 147) rfl rfl rfl (Yd.move rfl) ?_
                  refine WL.gy (dj := 147) rfl rfl rfl (Yd.move rfl) ?_
                  refine WL.gy (dj := 147) rfl rfl rfl (Yd.sliceTo (e := 22) (s := 1) (j := k) (by kernel_rfl) (by kernel_rfl) rfl rfl rfl (by omega)) ?_
                  refine WL.gr (dj := 147) rfl rfl rfl (Ent.func Try.call38 rfl) (sameLists_reads _ _ (g1.take k) (g1.take k) _ ((hW6.bss hA6).mono fun y hy => by simp at hy; rcases hy with hy | hy <;> simp [hy]) (bss_take (hr1.list.rs.mono fun y hy => by simp [hy]) (hr1.each.mono fun y hy => by simp [hy]) (by omega)) (by simp; omega)) ?_
                  refine WL.renamed (t := 152) (v := .bool true) rfl (congrArg Value.bool (by simp)) ?_
                  refine WL.y rfl (Yd.pickT rfl rfl) ?_
                  refine WL.y rfl (Yd.move rfl) ?_
                  refine WL.gr (dj := 154) rfl rfl rfl (Ent.func Try.call27 rfl) (known03 _) ?_
                  refine WL.y rfl (Yd.pickT rfl rfl) ?_
                  refine WL.y rfl (Yd.assign rfl) ?_
                  refine WL.nil ?_
                  refine DN.then_normal ?_
                  refine WC.ret ?_
                  refine DN.forget H (by (repeat (first | exact List.Sublist.refl _ | exact List.nil_sublist _ | apply List.Sublist.cons_cons | apply List.Sublist.cons | apply List.sublist_append_of_sublist_right))) ?_
                  refine DN.ret1 Try.results14 rfl ?_
                  exact ⟨rfl, rfl⟩
                · have hk00 : k = 0 := by omega
                  refine WC.skip ?_
                  refine DN.then_normal ?_
                  refine WC.seq ?_
                  refine WC.region ?_
                  refine WL.y rfl (Yd.move rfl) ?_
                  refine WL.y rfl (Yd.eql rfl rfl) ?_
                  refine WL.renamed (t := 141) (v := .bool true) rfl (congrArg Value.bool (by simp)) ?_
                  refine WL.y rfl (Yd.move rfl) ?_
                  refine WL.gy (dj := 142) rfl rfl rfl (Yd.move rfl) ?_
                  refine WL.gy (dj := 142) rfl rfl rfl (Yd.move rfl) ?_
                  refine WL.gy (dj := 142) rfl rfl rfl (Yd.eql rfl rfl) ?_
                  refine WL.renamed (t := 145) (v := .bool true) rfl (congrArg Value.bool (decide_eq_true (by first | rfl | (simp only [hk00]; rfl)))) ?_
                  refine WL.y rfl (Yd.pickT rfl rfl) ?_
                  refine WL.y rfl (Yd.move rfl) ?_
                  refine WL.gy (dj := 147) rfl rfl rfl (Yd.move rfl) ?_
                  refine WL.gy (dj := 147) rfl rfl rfl (Yd.move rfl) ?_
                  refine WL.gy (dj := 147) rfl rfl rfl (Yd.move rfl) ?_
                  refine WL.gy (dj := 147) rfl rfl rfl (Yd.sliceTo (e := 22) (s := 1) (j := k) (by kernel_rfl) (by kernel_rfl) rfl rfl rfl (by omega)) ?_
                  refine WL.gr (dj := 147) rfl rfl rfl (Ent.func Try.call38 rfl) (sameLists_reads _ _ (g1.take k) (g1.take k) _ ((hW6.bss hA6).mono fun y hy => by simp at hy; rcases hy with hy | hy <;> simp [hy]) (bss_take (hr1.list.rs.mono fun y hy => by simp [hy]) (hr1.each.mono fun y hy => by simp [hy]) (by omega)) (by simp; omega)) ?_
                  refine WL.renamed (t := 152) (v := .bool true) rfl (congrArg Value.bool (by simp)) ?_
                  refine WL.y rfl (Yd.pickT rfl rfl) ?_
                  refine WL.y rfl (Yd.move rfl) ?_
                  refine WL.gr (dj := 154) rfl rfl rfl (Ent.func Try.call27 rfl) (known03 _) ?_
                  refine WL.y rfl (Yd.pickT rfl rfl) ?_
                  refine WL.y rfl (Yd.assign rfl) ?_
                  refine WL.nil ?_
                  refine DN.then_normal ?_
                  refine WC.ret ?_
                  refine DN.forget H (by (repeat (first | exact List.Sublist.refl _ | exact List.nil_sublist _ | apply List.Sublist.cons_cons | apply List.Sublist.cons | apply List.sublist_append_of_sublist_right))) ?_
                  refine DN.ret1 Try.results14 rfl ?_
                  exact ⟨rfl, rfl⟩

end Go.Proofs.Ytfacofbobmlmiaa
