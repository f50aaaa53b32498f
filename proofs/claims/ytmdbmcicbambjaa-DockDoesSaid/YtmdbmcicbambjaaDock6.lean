/-
  The walks of the dock: the bookings told.
-/
import Derived.Test.YtmdbmcicbambjaaDock5
import Derived.Ground.SlsfProg
set_option linter.unusedVariables false
set_option linter.unusedSimpArgs false
set_option maxHeartbeats 4000000
namespace Go.Proofs
def Try.sortBk_ren : Go.Shelf.Ren := ⟨fun | 6 => 28 | 15 => 35 | 14 => 34 | 28 => 46 | 29 => 47 | 20 => 38 | 21 => 39 | 22 => 40 | 23 => 41 | 24 => 42 | 25 => 43 | 26 => 44 | 27 => 45 | 46 => 48 | 47 => 49 | 48 => 50 | 49 => 51 | 50 => 52 | 57 => 53 | n => n, fun | 22 => 43 | 24 => 47 | 25 => 63 | 3 => 3 | 39 => 67 | 0 => 0 | 53 => 24 | 55 => 78 | 4 => 4 | 46 => 71 | 45 => 70 | 50 => 75 | 5 => 5 | 9 => 9 | 66 => 79 | 70 => 83 | 76 => 85 | 77 => 30 | n => n, fun | n => n⟩
theorem Try.sortBk : SlLaysF0.n6 Try.prog Try.sortBk_ren := {
  mixed := by kernel_rfl,
  f6 := ⟨Try.f28.name, by decide, Try.func28.trans (congrArg some (by kernel_rfl))⟩,
  f14 := ⟨Try.f34.name, by decide, Try.func34.trans (congrArg some (by kernel_rfl))⟩,
  f15 := Try.func35.trans (congrArg some (by kernel_rfl)),
  f20 := ⟨Try.f38.name, by decide, Try.func38.trans (congrArg some (by kernel_rfl))⟩,
  f21 := ⟨Try.f39.name, by decide, Try.func39.trans (congrArg some (by kernel_rfl))⟩,
  f22 := ⟨Try.f40.name, by decide, Try.func40.trans (congrArg some (by kernel_rfl))⟩,
  f23 := ⟨Try.f41.name, by decide, Try.func41.trans (congrArg some (by kernel_rfl))⟩,
  f24 := ⟨Try.f42.name, by decide, Try.func42.trans (congrArg some (by kernel_rfl))⟩,
  f25 := ⟨Try.f43.name, by decide, Try.func43.trans (congrArg some (by kernel_rfl))⟩,
  f26 := ⟨Try.f44.name, by decide, Try.func44.trans (congrArg some (by kernel_rfl))⟩,
  f27 := ⟨Try.f45.name, by decide, Try.func45.trans (congrArg some (by kernel_rfl))⟩,
  f28 := Try.func46.trans (congrArg some (by kernel_rfl)),
  f29 := Try.func47.trans (congrArg some (by kernel_rfl)),
  f46 := ⟨Try.f48.name, by decide, Try.func48.trans (congrArg some (by kernel_rfl))⟩,
  f47 := Try.func49.trans (congrArg some (by kernel_rfl)),
  f48 := Try.func50.trans (congrArg some (by kernel_rfl)),
  f49 := ⟨Try.f51.name, by decide, Try.func51.trans (congrArg some (by kernel_rfl))⟩,
  f50 := ⟨Try.f52.name, by decide, Try.func52.trans (congrArg some (by kernel_rfl))⟩,
  f57 := ⟨Try.f53.name, by decide, Try.func53.trans (congrArg some (by kernel_rfl))⟩,
  t0 := Try.underlying0,
  a0 := Try.isAgg0,
  z0 := Try.sizeOf0,
  v0 := Try.zeroValue0,
  t3 := Try.underlying3,
  a3 := Try.isAgg3,
  z3 := Try.sizeOf3,
  v3 := Try.zeroValue3,
  t4 := Try.underlying4,
  a4 := Try.isAgg4,
  z4 := Try.sizeOf4,
  v4 := Try.zeroValue4,
  t5 := Try.underlying5,
  a5 := Try.isAgg5,
  z5 := Try.sizeOf5,
  v5 := Try.zeroValue5,
  t9 := Try.underlying9,
  a9 := Try.isAgg9,
  z9 := Try.sizeOf9,
  v9 := Try.zeroValue9,
  t22 := Try.underlying43,
  a22 := Try.isAgg43,
  z22 := Try.sizeOf43,
  v22 := Try.zeroValue43,
  t25 := Try.underlying63,
  a25 := Try.isAgg63,
  z25 := Try.sizeOf63,
  v25 := Try.zeroValue63,
  t39 := Try.underlying67,
  a39 := Try.isAgg67,
  z39 := Try.sizeOf67,
  v39 := Try.zeroValue67,
  t45 := Try.underlying70,
  a45 := Try.isAgg70,
  z45 := Try.sizeOf70,
  v45 := Try.zeroValue70,
  t46 := Try.underlying71,
  a46 := Try.isAgg71,
  z46 := Try.sizeOf71,
  v46 := Try.zeroValue71,
  t50 := Try.underlying75,
  a50 := Try.isAgg75,
  z50 := Try.sizeOf75,
  v50 := Try.zeroValue75,
  t53 := Try.underlying24,
  a53 := Try.isAgg24,
  z53 := Try.sizeOf24,
  v53 := Try.zeroValue24,
  t55 := Try.underlying78,
  a55 := Try.isAgg78,
  z55 := Try.sizeOf78,
  v55 := Try.zeroValue78,
  t66 := Try.underlying79,
  a66 := Try.isAgg79,
  z66 := Try.sizeOf79,
  v66 := Try.zeroValue79,
  t70 := Try.underlying83,
  a70 := Try.isAgg83,
  z70 := Try.sizeOf83,
  v70 := Try.zeroValue83,
  t76 := Try.underlying85,
  a76 := Try.isAgg85,
  z76 := Try.sizeOf85,
  v76 := Try.zeroValue85,
  t77 := Try.underlying30,
  a77 := Try.isAgg30,
  z77 := Try.sizeOf30,
  v77 := Try.zeroValue30
}

end Go.Proofs
namespace Go.Proofs.Ytmdbmcicbambjaa
open Go.SL


/-- (*drayage/dock.Dock).Bookings -/
theorem bookings_tells (p : Nat) (rs : List Int) (L : List Bk) (C : List Ck) (h : DockAt 55 3 p rs L C) (hl : L.length ≤ 100000000) : Tells Try.prog 19 [.pointer (some ⟨p, 0, none⟩)] C fun r C' => ∃ S Cs, ToldB L S ∧ Own r S.length (S.flatMap encB) 47 3 Cs ∧ C' = Cs ++ C := by
  refine Tells.enter Try.func19 rfl Try.ntmps19 rfl ?_
  intro w0 R
  obtain ⟨vr, Cr, bm, Cm, rfl, hr, ⟨es, clock, rfl, hes, hborn, hbn⟩, hnd⟩ := h
  refine WC.seq ?_
  refine WC.region ?_
  refine WL.y rfl (Yd.assign rfl) ?_
  refine WL.nil ?_
  refine DN.then_normal ?_
  refine WC.seq ?_
  refine WC.seq ?_
  refine WC.region ?_
  refine WL.y rfl (Yd.move rfl) ?_
  refine WL.y rfl (Yd.eqlNil Try.underlying26 rfl rfl) ?_
  refine WL.nil ?_
  refine DN.then_normal ?_
  refine WC.no rfl ?_
  refine WC.skip ?_
  refine DN.then_normal ?_
  refine WC.seq ?_
  refine WC.region ?_
  refine WL.y rfl (Yd.assign rfl) ?_
  refine WL.nil ?_
  refine DN.then_normal ?_
  refine WC.seq ?_
  refine WC.seq ?_
  refine WC.region ?_
  refine WL.y rfl (Yd.move rfl) ?_
  refine WL.y rfl (Yd.notNil rfl) ?_
  refine WL.y rfl (Yd.fieldAddr (k := 1) (by kernel_rfl) rfl) ?_
  refine WL.h rfl (Hd.load1 (by kernel_rfl) rfl (by repeat (first | exact List.mem_cons_self | apply List.mem_cons_of_mem | apply List.mem_append_right)) (by rfl) ⟨_, rfl, ?_⟩)
  refine WL.h rfl (Hd.rangeM (KT := 24) (ET := 47) (by kernel_rfl) rfl (by repeat (first | exact List.mem_cons_self | apply List.mem_cons_of_mem | apply List.mem_append_right)) fun i => ⟨_, rfl, ?_⟩)
  refine WL.nil ?_
  refine DN.then_normal ?_
  refine WC.block ?_
  refine WC.loopS (fun z : List MapEntry × List Bk × (Array Nat) × Value × List Ck => Seen es z.1 z.2.2.1 ∧ z.1.map MapEntry.val = z.2.1.map Bk.val ∧ Own z.2.2.2.1 z.2.1.length (z.2.1.flatMap encB) 47 3 z.2.2.2.2) (fun z : List MapEntry × List Bk × (Array Nat) × Value × List Ck => [(3, z.2.2.2.1)]) (fun z : List MapEntry × List Bk × (Array Nat) × Value × List Ck => ⟨i, .mapIter (some bm) clock z.2.2.1 clock, true⟩ :: (z.2.2.2.2 ++ (row p [vr, .map (some bm)] 55 :: (Cr ++ [⟨bm, .map es clock, true⟩])))) (fun z : List MapEntry × List Bk × (Array Nat) × Value × List Ck => es.size - z.1.length) (⟨[], [], #[], .slice none 0 0, []⟩) (show Seen es [] #[] ∧ [].map MapEntry.val = [].map Bk.val ∧ Own (.slice none 0 0) [].length ([].flatMap encB) 47 3 [] from ⟨Seen.start es, rfl, Own.nil _ _⟩) (Sx.put rfl ((by repeat (first | exact Sx.refl | refine Sx.skip rfl ?_)))) (by repeat (first | exact Sp.here | exact Sp.sn | exact Sp.s0 | exact Fr.here | apply Sp.s2 | apply Sp.sx | apply Fr.fc | apply Fr.al | apply Fr.fa | apply Sp.sc | apply Sp.al | apply Sp.sa)) ?_
  rintro ⟨col, B, seen, v, Cs⟩ hI
  replace hI : Seen es col seen ∧ col.map MapEntry.val = B.map Bk.val ∧ Own v B.length (B.flatMap encB) 47 3 Cs := hI
  obtain ⟨hs, hB, ho⟩ := hI
  change WC _ _ _ _ _ _ ([(3, v)] ++ _) (⟨i, .mapIter (some bm) clock seen clock, true⟩ :: (Cs ++ (row p [vr, .map (some bm)] 55 :: (Cr ++ [⟨bm, .map es clock, true⟩]))))
  have hcl := hs.len hbn
  obtain ⟨vo, vc, rfl, _⟩ := ho.form
  have hBl : B.length = col.length := by simpa using (congrArg List.length hB).symm
  have hesl : es.size = L.length := by simpa [bks] using hes.size
  refine WC.seq ?_
  refine WC.region ?_
  refine WL.h rfl (Hd.nextM rfl (by repeat (first | exact Fr.here | apply Fr.fc | apply Fr.al | apply Fr.fa)) (by repeat (first | exact List.mem_cons_self | apply List.mem_cons_of_mem | apply List.mem_append_right)) hborn (fun e he => ⟨_, rfl, ?_⟩) (fun hu => ⟨_, rfl, ?_⟩))
  · obtain ⟨hs2, hee⟩ := hs.next he
    obtain ⟨b, hbL, heb⟩ := ents_one hes hee
    refine WL.y rfl (Yd.extract rfl rfl) ?_
    refine WL.nil ?_
    refine DN.then_normal ?_
    refine WC.seq ?_
    refine WC.yes rfl ?_
    refine WC.skip ?_
    refine DN.then_normal ?_
    refine WC.block ?_
    refine WC.seq ?_
    refine WC.region ?_
    refine WL.h rfl (Hd.entryM rfl List.mem_cons_self (by repeat (first | exact List.mem_cons_self | apply List.mem_cons_of_mem | apply List.mem_append_right)) hbn hee ⟨_, rfl, ?_⟩)
    refine WL.y rfl (Yd.extract rfl rfl) ?_
    refine WL.renamed (t := 16) (v := .agg (encB b).toArray) rfl (by show e.val = _; rw [heb]; rfl) ?_
    refine WL.h rfl (Hd.alloc (zs := [.int .u32 0, .int .i64 0, .int .i64 0]) (by kernel_rfl) fun b5 => ⟨_, rfl, ?_⟩)
    refine WL.s (Hd.storeAll (n := 3) (by kernel_rfl) rfl rfl (by rfl) (by repeat (first | exact fun _ h => absurd h List.not_mem_nil | refine List.forall_mem_cons.2 ⟨by first | rfl | assumption, ?_⟩)) (by repeat (first | exact Fr.here | apply Fr.fc | apply Fr.al | apply Fr.fa)) (by rfl) ⟨rfl, ?_⟩)
    refine WL.nil ?_
    refine DN.then_normal ?_
    refine WC.region ?_
    refine WL.y rfl (Yd.move rfl) ?_
    refine WL.h rfl (Hd.loadAll (n := 3) (by kernel_rfl) rfl (by repeat (first | exact List.mem_cons_self | apply List.mem_cons_of_mem | apply List.mem_append_right)) (by rfl) ⟨_, rfl, ?_⟩)
    refine WL.h rfl (Hd.buildA (e := 47) (sz := 3) (zs := [.int .u32 0, .int .i64 0, .int .i64 0]) (by kernel_rfl) (by kernel_rfl) (by kernel_rfl) rfl rfl (by rfl) (by kernel_rfl) fun b19 => ⟨_, rfl, ?_⟩)
    refine WL.h rfl (Hd.appendRow (e := 47) (sz := 3) (bytes := 24) (zs := [.int .u32 0, .int .i64 0, .int .i64 0]) (by kernel_rfl) (by kernel_rfl) rfl (by omega) rfl rfl (ho) (by repeat (first | exact Sp.here | exact Sp.sn | exact Sp.s0 | exact Fr.here | apply Sp.s2 | apply Sp.sx | apply Fr.fc | apply Fr.al | apply Fr.fa | apply Sp.sc | apply Sp.al | apply Sp.sa)) (by repeat (first | exact List.mem_cons_self | apply List.mem_cons_of_mem | apply List.mem_append_right)) (by rfl) (by repeat (first | exact fun _ h => absurd h List.not_mem_nil | refine List.forall_mem_cons.2 ⟨by first | rfl | assumption, ?_⟩)) (by simp only [maxLen]; omega) (by omega) fun v2 C2 ho2 => ⟨_, rfl, ?_⟩)
    refine WL.y rfl (Yd.assign rfl) ?_
    refine WL.nil ?_
    refine DN.block_normal ?_
    have hcl2 := hs2.len hbn
    have hcl3 : (col ++ [e]).length = col.length + 1 := by simp
    exact DN.againS (⟨col ++ [e], B ++ [b], seen.push e.born, v2, C2⟩) (show Seen es (col ++ [e]) (seen.push e.born) ∧ (col ++ [e]).map MapEntry.val = (B ++ [b]).map Bk.val ∧ Own v2 (B ++ [b]).length ((B ++ [b]).flatMap encB) 47 3 C2 from ⟨hs2, by rw [List.map_append, List.map_append, hB]; simp [heb], by simpa using ho2⟩) (show es.size - (col ++ [e]).length < es.size - col.length by omega) (Sx.put rfl ((by repeat (first | exact Sx.refl | refine Sx.skip rfl ?_)))) (by repeat (first | exact Sp.here | exact Sp.sn | exact Sp.s0 | exact Fr.here | apply Sp.s2 | apply Sp.sx | apply Fr.fc | apply Fr.al | apply Fr.fa | apply Sp.sc | apply Sp.al | apply Sp.sa))
  · refine WL.y rfl (Yd.extract rfl rfl) ?_
    refine WL.nil ?_
    refine DN.then_normal ?_
    refine WC.seq ?_
    refine WC.no rfl ?_
    refine WC.exit ?_
    refine DN.then_exit ?_
    refine DN.then_exit ?_
    refine DN.block_exit ?_
    refine DN.then_normal ?_
    refine WC.seq ?_
    refine WC.region ?_
    refine WL.y rfl (Yd.move rfl) ?_
    refine WL.c rfl (Ent.func Try.call28 rfl) (sort_tells Try.sortBk 3 (by omega) Try.isAgg47 Try.sizeOf47 encB encB_len encB_one cfB cfB_swo 29 Try.call29 closure_tells ho (by omega)) (Sp.p (by repeat (first | exact Sp.here | exact Sp.sn | exact Sp.s0 | exact Fr.here | apply Sp.s2 | apply Sp.sx | apply Fr.fc | apply Fr.al | apply Fr.fa | apply Sp.sc | apply Sp.al | apply Sp.sa))) ?_
    rintro q C2 ⟨rfl, S, hS, hpw, ho2⟩
    refine WL.nil ?_
    refine DN.then_normal ?_
    refine WC.seq ?_
    refine WC.region ?_
    refine WL.y rfl (Yd.move rfl) ?_
    refine WL.y rfl (Yd.assign rfl) ?_
    refine WL.nil ?_
    refine DN.then_normal ?_
    refine WC.ret ?_
    refine DN.fit (C := C2 ++ (row p [vr, .map (some bm)] 55 :: (Cr ++ [⟨bm, .map es clock, true⟩]))) (by repeat (first | exact Sp.here | exact Sp.sn | exact Sp.s0 | exact Fr.here | apply Sp.s2 | apply Sp.sx | apply Fr.fc | apply Fr.al | apply Fr.fa | apply Sp.sc | apply Sp.al | apply Sp.sa)) ?_
    refine DN.ret1 Try.results19 rfl ?_
    exact ⟨S, C2, told_of (ents_all hes (hs.all hbn hu) hB) hS hpw, by rw [hS.length_eq]; rwa [hS.length_eq] at ho2, rfl⟩

end Go.Proofs.Ytmdbmcicbambjaa
