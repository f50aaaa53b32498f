/-
  The walks of the purse: accounts and payments told in order, what is taken.
-/
import Derived.Test.YtllfnigodikbaaaPurse1
import Derived.Test.YtllfnigodikbaaaPurseLaw
import Derived.Ground.SlsfProg
import Derived.Shelf.Small.Strs
set_option linter.unusedVariables false
set_option linter.unusedSimpArgs false
set_option maxHeartbeats 4000000
namespace Go.Proofs
def Try.sortU_ren : Go.Shelf.Ren := ⟨fun | 6 => 30 | 15 => 38 | 14 => 37 | 28 => 49 | 29 => 50 | 20 => 41 | 21 => 42 | 22 => 43 | 23 => 44 | 24 => 45 | 25 => 46 | 26 => 47 | 27 => 48 | 46 => 60 | 47 => 61 | 48 => 62 | 49 => 63 | 50 => 64 | 57 => 68 | n => n, fun | 22 => 22 | 24 => 46 | 25 => 63 | 3 => 3 | 39 => 51 | 0 => 0 | 53 => 33 | 55 => 81 | 4 => 4 | 46 => 74 | 45 => 73 | 50 => 78 | 5 => 5 | 9 => 9 | 66 => 87 | 70 => 91 | 76 => 95 | 77 => 96 | n => n, fun | n => n⟩
theorem Try.sortU : SlLaysF0.n6 Try.prog Try.sortU_ren := {
  mixed := by kernel_rfl,
  f6 := ⟨Try.f30.name, by decide, Try.func30.trans (congrArg some (by kernel_rfl))⟩,
  f14 := ⟨Try.f37.name, by decide, Try.func37.trans (congrArg some (by kernel_rfl))⟩,
  f15 := Try.func38.trans (congrArg some (by kernel_rfl)),
  f20 := ⟨Try.f41.name, by decide, Try.func41.trans (congrArg some (by kernel_rfl))⟩,
  f21 := ⟨Try.f42.name, by decide, Try.func42.trans (congrArg some (by kernel_rfl))⟩,
  f22 := ⟨Try.f43.name, by decide, Try.func43.trans (congrArg some (by kernel_rfl))⟩,
  f23 := ⟨Try.f44.name, by decide, Try.func44.trans (congrArg some (by kernel_rfl))⟩,
  f24 := ⟨Try.f45.name, by decide, Try.func45.trans (congrArg some (by kernel_rfl))⟩,
  f25 := ⟨Try.f46.name, by decide, Try.func46.trans (congrArg some (by kernel_rfl))⟩,
  f26 := ⟨Try.f47.name, by decide, Try.func47.trans (congrArg some (by kernel_rfl))⟩,
  f27 := ⟨Try.f48.name, by decide, Try.func48.trans (congrArg some (by kernel_rfl))⟩,
  f28 := Try.func49.trans (congrArg some (by kernel_rfl)),
  f29 := Try.func50.trans (congrArg some (by kernel_rfl)),
  f46 := ⟨Try.f60.name, by decide, Try.func60.trans (congrArg some (by kernel_rfl))⟩,
  f47 := Try.func61.trans (congrArg some (by kernel_rfl)),
  f48 := Try.func62.trans (congrArg some (by kernel_rfl)),
  f49 := ⟨Try.f63.name, by decide, Try.func63.trans (congrArg some (by kernel_rfl))⟩,
  f50 := ⟨Try.f64.name, by decide, Try.func64.trans (congrArg some (by kernel_rfl))⟩,
  f57 := ⟨Try.f68.name, by decide, Try.func68.trans (congrArg some (by kernel_rfl))⟩,
  t0 := Try.underlying0,
  a0 := Try.isAgg0,
  z0 := Try.sizeOf0,
  v0 := Try.zeroValue0,
  t3 := Try.underlying3,
  a3 := Try.isAgg3,
  z3 := Try.sizeOf3,
  v3 := Try.zeroValue3,
  t4 := Try.underlying4,
  a4 := Try.isAgg4,
  z4 := Try.sizeOf4,
  v4 := Try.zeroValue4,
  t5 := Try.underlying5,
  a5 := Try.isAgg5,
  z5 := Try.sizeOf5,
  v5 := Try.zeroValue5,
  t9 := Try.underlying9,
  a9 := Try.isAgg9,
  z9 := Try.sizeOf9,
  v9 := Try.zeroValue9,
  t22 := Try.underlying22,
  a22 := Try.isAgg22,
  z22 := Try.sizeOf22,
  v22 := Try.zeroValue22,
  t25 := Try.underlying63,
  a25 := Try.isAgg63,
  z25 := Try.sizeOf63,
  v25 := Try.zeroValue63,
  t39 := Try.underlying51,
  a39 := Try.isAgg51,
  z39 := Try.sizeOf51,
  v39 := Try.zeroValue51,
  t45 := Try.underlying73,
  a45 := Try.isAgg73,
  z45 := Try.sizeOf73,
  v45 := Try.zeroValue73,
  t46 := Try.underlying74,
  a46 := Try.isAgg74,
  z46 := Try.sizeOf74,
  v46 := Try.zeroValue74,
  t50 := Try.underlying78,
  a50 := Try.isAgg78,
  z50 := Try.sizeOf78,
  v50 := Try.zeroValue78,
  t53 := Try.underlying33,
  a53 := Try.isAgg33,
  z53 := Try.sizeOf33,
  v53 := Try.zeroValue33,
  t55 := Try.underlying81,
  a55 := Try.isAgg81,
  z55 := Try.sizeOf81,
  v55 := Try.zeroValue81,
  t66 := Try.underlying87,
  a66 := Try.isAgg87,
  z66 := Try.sizeOf87,
  v66 := Try.zeroValue87,
  t70 := Try.underlying91,
  a70 := Try.isAgg91,
  z70 := Try.sizeOf91,
  v70 := Try.zeroValue91,
  t76 := Try.underlying95,
  a76 := Try.isAgg95,
  z76 := Try.sizeOf95,
  v76 := Try.zeroValue95,
  t77 := Try.underlying96,
  a77 := Try.isAgg96,
  z77 := Try.sizeOf96,
  v77 := Try.zeroValue96
}
def Try.sortP_ren : Go.Shelf.Ren := ⟨fun | 6 => 33 | 15 => 38 | 14 => 40 | 28 => 49 | 29 => 50 | 20 => 52 | 21 => 53 | 22 => 54 | 23 => 55 | 24 => 56 | 25 => 57 | 26 => 58 | 27 => 59 | 46 => 65 | 47 => 61 | 48 => 62 | 49 => 66 | 50 => 67 | 57 => 69 | n => n, fun | 22 => 40 | 24 => 48 | 25 => 65 | 3 => 3 | 39 => 51 | 0 => 0 | 53 => 33 | 55 => 81 | 4 => 4 | 46 => 74 | 45 => 73 | 50 => 78 | 5 => 5 | 9 => 9 | 66 => 87 | 70 => 91 | 76 => 95 | 77 => 96 | n => n, fun | n => n⟩
theorem Try.sortP : SlLaysF0.n6 Try.prog Try.sortP_ren := {
  mixed := by kernel_rfl,
  f6 := ⟨Try.f33.name, by decide, Try.func33.trans (congrArg some (by kernel_rfl))⟩,
  f14 := ⟨Try.f40.name, by decide, Try.func40.trans (congrArg some (by kernel_rfl))⟩,
  f15 := Try.func38.trans (congrArg some (by kernel_rfl)),
  f20 := ⟨Try.f52.name, by decide, Try.func52.trans (congrArg some (by kernel_rfl))⟩,
  f21 := ⟨Try.f53.name, by decide, Try.func53.trans (congrArg some (by kernel_rfl))⟩,
  f22 := ⟨Try.f54.name, by decide, Try.func54.trans (congrArg some (by kernel_rfl))⟩,
  f23 := ⟨Try.f55.name, by decide, Try.func55.trans (congrArg some (by kernel_rfl))⟩,
  f24 := ⟨Try.f56.name, by decide, Try.func56.trans (congrArg some (by kernel_rfl))⟩,
  f25 := ⟨Try.f57.name, by decide, Try.func57.trans (congrArg some (by kernel_rfl))⟩,
  f26 := ⟨Try.f58.name, by decide, Try.func58.trans (congrArg some (by kernel_rfl))⟩,
  f27 := ⟨Try.f59.name, by decide, Try.func59.trans (congrArg some (by kernel_rfl))⟩,
  f28 := Try.func49.trans (congrArg some (by kernel_rfl)),
  f29 := Try.func50.trans (congrArg some (by kernel_rfl)),
  f46 := ⟨Try.f65.name, by decide, Try.func65.trans (congrArg some (by kernel_rfl))⟩,
  f47 := Try.func61.trans (congrArg some (by kernel_rfl)),
  f48 := Try.func62.trans (congrArg some (by kernel_rfl)),
  f49 := ⟨Try.f66.name, by decide, Try.func66.trans (congrArg some (by kernel_rfl))⟩,
  f50 := ⟨Try.f67.name, by decide, Try.func67.trans (congrArg some (by kernel_rfl))⟩,
  f57 := ⟨Try.f69.name, by decide, Try.func69.trans (congrArg some (by kernel_rfl))⟩,
  t0 := Try.underlying0,
  a0 := Try.isAgg0,
  z0 := Try.sizeOf0,
  v0 := Try.zeroValue0,
  t3 := Try.underlying3,
  a3 := Try.isAgg3,
  z3 := Try.sizeOf3,
  v3 := Try.zeroValue3,
  t4 := Try.underlying4,
  a4 := Try.isAgg4,
  z4 := Try.sizeOf4,
  v4 := Try.zeroValue4,
  t5 := Try.underlying5,
  a5 := Try.isAgg5,
  z5 := Try.sizeOf5,
  v5 := Try.zeroValue5,
  t9 := Try.underlying9,
  a9 := Try.isAgg9,
  z9 := Try.sizeOf9,
  v9 := Try.zeroValue9,
  t22 := Try.underlying40,
  a22 := Try.isAgg40,
  z22 := Try.sizeOf40,
  v22 := Try.zeroValue40,
  t25 := Try.underlying65,
  a25 := Try.isAgg65,
  z25 := Try.sizeOf65,
  v25 := Try.zeroValue65,
  t39 := Try.underlying51,
  a39 := Try.isAgg51,
  z39 := Try.sizeOf51,
  v39 := Try.zeroValue51,
  t45 := Try.underlying73,
  a45 := Try.isAgg73,
  z45 := Try.sizeOf73,
  v45 := Try.zeroValue73,
  t46 := Try.underlying74,
  a46 := Try.isAgg74,
  z46 := Try.sizeOf74,
  v46 := Try.zeroValue74,
  t50 := Try.underlying78,
  a50 := Try.isAgg78,
  z50 := Try.sizeOf78,
  v50 := Try.zeroValue78,
  t53 := Try.underlying33,
  a53 := Try.isAgg33,
  z53 := Try.sizeOf33,
  v53 := Try.zeroValue33,
  t55 := Try.underlying81,
  a55 := Try.isAgg81,
  z55 := Try.sizeOf81,
  v55 := Try.zeroValue81,
  t66 := Try.underlying87,
  a66 := Try.isAgg87,
  z66 := Try.sizeOf87,
  v66 := Try.zeroValue87,
  t70 := Try.underlying91,
  a70 := Try.isAgg91,
  z70 := Try.sizeOf91,
  v70 := Try.zeroValue91,
  t76 := Try.underlying95,
  a76 := Try.isAgg95,
  z76 := Try.sizeOf95,
  v76 := Try.zeroValue95,
  t77 := Try.underlying96,
  a77 := Try.isAgg96,
  z77 := Try.sizeOf96,
  v77 := Try.zeroValue96
}

def Try.cmp_ren : Go.Shelf.Ren := ⟨fun | 106 => 32 | 213 => 39 | 265 => 51 | n => n, fun | 3 => 3 | 9 => 9 | n => n, fun | n => n⟩
theorem Try.cmpStr : Lays.n106 Try.prog Try.cmp_ren := {
  mixed := by kernel_rfl,
  f106 := Try.func32.trans (congrArg some (by kernel_rfl)),
  f213 := Try.func39.trans (congrArg some (by kernel_rfl)),
  f265 := Try.func51.trans (congrArg some (by kernel_rfl)),
  t3 := Try.underlying3, a3 := Try.isAgg3, z3 := Try.sizeOf3, v3 := Try.zeroValue3,
  t9 := Try.underlying9, a9 := Try.isAgg9, z9 := Try.sizeOf9, v9 := Try.zeroValue9 }
end Go.Proofs
namespace Go.Proofs.Ytllfnigodikbaaa
open Go.SL
theorem compare_reads (a b : ByteArray) (H : List Ck) : Reads Try.prog 32 [.string a, .string b] H (.int .i64 (cmpS a b)) := fun w R s =>
  (Any.strings_Compare (ρ := Try.cmp_ren) Try.cmpStr a b w).mono fun e w' ⟨he, hw⟩ => ⟨_, H, he, ⟨rfl, rfl⟩, by rw [hw]; exact s, by rw [hw]; exact Kept.refl w⟩


/-- (*drayage/purse.Purse).Accounts$1 -/
theorem cmpU_tells (x y : Au) : Tells Try.prog 31 [.agg (cellsU x).toArray, .agg (cellsU y).toArray] [] fun r H' => r = .int .i64 (cfU x y) := by
  refine Tells.enter Try.func31 rfl Try.ntmps31 rfl ?_
  intro w0 R
  refine WC.seq ?_
  refine WC.region ?_
  refine WL.h rfl (Hd.boxA rfl fun b2 => ⟨_, rfl, ?_⟩)
  refine WL.h rfl (Hd.boxA rfl fun b3 => ⟨_, rfl, ?_⟩)
  refine WL.y rfl (Yd.assign rfl) ?_
  refine WL.nil ?_
  refine DN.then_normal ?_
  refine WC.seq ?_
  refine WC.region ?_
  refine WL.y rfl (Yd.fieldAddr (k := 0) (by kernel_rfl) rfl) ?_
  refine WL.h rfl (Hd.load1 (by kernel_rfl) rfl (by repeat (first | exact List.mem_cons_self | apply List.mem_cons_of_mem | apply List.mem_append_right)) (by rfl) ⟨_, rfl, ?_⟩)
  refine WL.y rfl (Yd.fieldAddr (k := 0) (by kernel_rfl) rfl) ?_
  refine WL.h rfl (Hd.load1 (by kernel_rfl) rfl (by repeat (first | exact List.mem_cons_self | apply List.mem_cons_of_mem | apply List.mem_append_right)) (by rfl) ⟨_, rfl, ?_⟩)
  refine WL.rf rfl (Ent.func Try.call32 rfl) (compare_reads x.name y.name []) (by repeat (first | exact Sp.here | exact Sp.sn | exact Sp.s0 | exact Fr.here | apply Sp.s2 | apply Sp.sx | apply Fr.fc | apply Fr.al | apply Fr.fa | apply Sp.sc | apply Sp.al | apply Sp.sa)) ?_
  refine WL.y rfl (Yd.assign rfl) ?_
  refine WL.nil ?_
  refine DN.then_normal ?_
  refine WC.ret ?_
  refine DN.ret1 Try.results31 rfl ?_
  rfl

/-- (*drayage/purse.Purse).Pays$1 -/
theorem cmpP_tells (x y : Py) : Tells Try.prog 34 [.agg (cellsP x).toArray, .agg (cellsP y).toArray] [] fun r H' => r = .int .i64 (cfP x y) := by
  refine Tells.enter Try.func34 rfl Try.ntmps34 rfl ?_
  intro w0 R
  refine WC.seq ?_
  refine WC.region ?_
  refine WL.h rfl (Hd.boxA rfl fun b2 => ⟨_, rfl, ?_⟩)
  refine WL.h rfl (Hd.boxA rfl fun b3 => ⟨_, rfl, ?_⟩)
  refine WL.y rfl (Yd.assign rfl) ?_
  refine WL.nil ?_
  refine DN.then_normal ?_
  refine WC.seq ?_
  refine WC.seq ?_
  refine WC.region ?_
  refine WL.y rfl (Yd.fieldAddr (k := 0) (by kernel_rfl) rfl) ?_
  refine WL.h rfl (Hd.load1 (by kernel_rfl) rfl (by repeat (first | exact List.mem_cons_self | apply List.mem_cons_of_mem | apply List.mem_append_right)) (by rfl) ⟨_, rfl, ?_⟩)
  refine WL.y rfl (Yd.fieldAddr (k := 0) (by kernel_rfl) rfl) ?_
  refine WL.h rfl (Hd.load1 (by kernel_rfl) rfl (by repeat (first | exact List.mem_cons_self | apply List.mem_cons_of_mem | apply List.mem_append_right)) (by rfl) ⟨_, rfl, ?_⟩)
  refine WL.y rfl (Yd.lss rfl rfl) ?_
  refine WL.nil ?_
  refine DN.then_normal ?_
  refine WC.ite rfl (fun h9 => ?_) (fun h9 => ?_)
  · refine WC.seq ?_
    refine WC.region ?_
    refine WL.y rfl (Yd.assign rfl) ?_
    refine WL.nil ?_
    refine DN.then_normal ?_
    refine WC.ret ?_
    refine DN.then_ret ?_
    refine DN.ret1 Try.results34 rfl ?_
    unfold cfP; first | rw [if_pos (by omega)] | rw [if_neg (by omega)]
  · refine WC.skip ?_
    refine DN.then_normal ?_
    refine WC.seq ?_
    refine WC.region ?_
    refine WL.y rfl (Yd.assign rfl) ?_
    refine WL.nil ?_
    refine DN.then_normal ?_
    refine WC.ret ?_
    refine DN.ret1 Try.results34 rfl ?_
    unfold cfP; first | rw [if_pos (by omega)] | rw [if_neg (by omega)]

/-- (*drayage/purse.Purse).Accounts -/
theorem accs_tells (p : Nat) (K : List Au) (L : List Py) (C : List Ck) (h : PsAt 57 p K L C) (hl : K.length ≤ 100000000) : Tells Try.prog 16 [.pointer (some ⟨p, 0, none⟩)] C fun r C' => ∃ S Cs, ToldK Au.name sLt K S ∧ Own r S.length (S.flatMap cellsU) 46 3 Cs ∧ C' = Cs ++ C := by
  refine Tells.enter Try.func16 rfl Try.ntmps16 rfl ?_
  intro w0 R
  obtain ⟨b1, b2, C1, C2, rfl, hK, hL⟩ := h
  obtain ⟨es, clock, rfl, hes, hborn, hbn⟩ := hK
  have hsz := hes.size
  simp only [kvs, List.length_map] at hsz
  refine WC.seq ?_
  refine WC.region ?_
  refine WL.y rfl (Yd.assign rfl) ?_
  refine WL.nil ?_
  refine DN.then_normal ?_
  refine WC.seq ?_
  refine WC.seq ?_
  refine WC.region ?_
  refine WL.y rfl (Yd.move rfl) ?_
  refine WL.y rfl (Yd.eqlNil Try.underlying26 rfl rfl) ?_
  refine WL.nil ?_
  refine DN.then_normal ?_
  refine WC.no rfl ?_
  refine WC.skip ?_
  refine DN.then_normal ?_
  refine WC.seq ?_
  refine WC.region ?_
  refine WL.y rfl (Yd.assign rfl) ?_
  refine WL.nil ?_
  refine DN.then_normal ?_
  refine WC.seq ?_
  refine WC.seq ?_
  refine WC.region ?_
  refine WL.y rfl (Yd.move rfl) ?_
  refine WL.y rfl (Yd.notNil rfl) ?_
  refine WL.y rfl (Yd.fieldAddr (k := 0) (by kernel_rfl) rfl) ?_
  refine WL.h rfl (Hd.load1 (by kernel_rfl) rfl (by repeat (first | exact List.mem_cons_self | apply List.mem_cons_of_mem | apply List.mem_append_right)) (by rfl) ⟨_, rfl, ?_⟩)
  refine WL.h rfl (Hd.rangeM (KT := 9) (ET := 46) (by kernel_rfl) rfl (by repeat (first | exact List.mem_cons_self | apply List.mem_cons_of_mem | apply List.mem_append_right)) fun i => ⟨_, rfl, ?_⟩)
  refine WL.nil ?_
  refine DN.then_normal ?_
  refine WC.block ?_
  refine WC.loopS (fun z : List MapEntry × List Au × (Array Nat) × Value × List Ck => Seen es z.1 z.2.2.1 ∧ z.1.map (fun e : MapEntry => (e.key, e.val)) = z.2.1.map (fun r : Au => (kStr.kv (Au.name r), encU r)) ∧ Own z.2.2.2.1 z.2.1.length (z.2.1.flatMap cellsU) 46 3 z.2.2.2.2) (fun z : List MapEntry × List Au × (Array Nat) × Value × List Ck => [(3, z.2.2.2.1)]) (fun z : List MapEntry × List Au × (Array Nat) × Value × List Ck => ⟨i, .mapIter (some b1) clock z.2.2.1 clock, true⟩ :: (z.2.2.2.2 ++ (row p [.map (some b1), .map (some b2)] 57 :: ([⟨b1, .map es clock, true⟩] ++ C2)))) (fun z : List MapEntry × List Au × (Array Nat) × Value × List Ck => es.size - z.1.length) (⟨[], [], #[], .slice none 0 0, []⟩) (show Seen es [] #[] ∧ [].map (fun e : MapEntry => (e.key, e.val)) = [].map (fun r : Au => (kStr.kv (Au.name r), encU r)) ∧ Own (.slice none 0 0) [].length ([].flatMap cellsU) 46 3 [] from ⟨Seen.start es, rfl, Own.nil _ _⟩) (Sx.put rfl ((by repeat (first | exact Sx.refl | refine Sx.skip rfl ?_)))) (by repeat (first | exact Sp.here | exact Sp.sn | exact Sp.s0 | exact Fr.here | apply Sp.s2 | apply Sp.sx | apply Fr.fc | apply Fr.al | apply Fr.fa | apply Sp.sc | apply Sp.al | apply Sp.sa)) ?_
  rintro ⟨col, B, seen, v, Cs⟩ hI
  replace hI : Seen es col seen ∧ col.map (fun e : MapEntry => (e.key, e.val)) = B.map (fun r : Au => (kStr.kv (Au.name r), encU r)) ∧ Own v B.length (B.flatMap cellsU) 46 3 Cs := hI
  obtain ⟨hs, hB, ho⟩ := hI
  change WC _ _ _ _ _ _ ([(3, v)] ++ _) (⟨i, .mapIter (some b1) clock seen clock, true⟩ :: (Cs ++ (row p [.map (some b1), .map (some b2)] 57 :: ([⟨b1, .map es clock, true⟩] ++ C2))))
  have hcl := hs.len hbn
  obtain ⟨vo, vc, rfl, _⟩ := ho.form
  have hBl : B.length = col.length := by simpa using (congrArg List.length hB).symm
  refine WC.seq ?_
  refine WC.region ?_
  refine WL.h rfl (Hd.nextM rfl (by repeat (first | exact Fr.here | apply Fr.fc | apply Fr.al | apply Fr.fa)) (by repeat (first | exact List.mem_cons_self | apply List.mem_cons_of_mem | apply List.mem_append_right)) hborn (fun e he => ⟨_, rfl, ?_⟩) (fun hu => ⟨_, rfl, ?_⟩))
  · obtain ⟨hs2, hee⟩ := hs.next he
    obtain ⟨b, hbL, hek, hev⟩ := entsK_one hes hee
    refine WL.y rfl (Yd.extract rfl rfl) ?_
    refine WL.nil ?_
    refine DN.then_normal ?_
    refine WC.seq ?_
    refine WC.yes rfl ?_
    refine WC.skip ?_
    refine DN.then_normal ?_
    refine WC.block ?_
    refine WC.seq ?_
    refine WC.region ?_
    refine WL.h rfl (Hd.entryM rfl List.mem_cons_self (by repeat (first | exact List.mem_cons_self | apply List.mem_cons_of_mem | apply List.mem_append_right)) hbn hee ⟨_, rfl, ?_⟩)
    refine WL.y rfl (Yd.extract rfl rfl) ?_
    refine WL.renamed (t := 16) (v := .agg (cellsU b).toArray) rfl (by show e.val = _; rw [hev]; rfl) ?_
    refine WL.h rfl (Hd.alloc (zs := [.string ⟨#[]⟩, .int .i64 0, .int .i64 0]) (by kernel_rfl) fun b5 => ⟨_, rfl, ?_⟩)
    refine WL.s (Hd.storeAll (n := 3) (by kernel_rfl) rfl rfl (by rfl) (by repeat (first | exact fun _ h => absurd h List.not_mem_nil | refine List.forall_mem_cons.2 ⟨by first | rfl | assumption, ?_⟩)) (by repeat (first | exact Fr.here | apply Fr.fc | apply Fr.al | apply Fr.fa)) (by rfl) ⟨rfl, ?_⟩)
    refine WL.nil ?_
    refine DN.then_normal ?_
    refine WC.region ?_
    refine WL.y rfl (Yd.move rfl) ?_
    refine WL.h rfl (Hd.loadAll (n := 3) (by kernel_rfl) rfl (by repeat (first | exact List.mem_cons_self | apply List.mem_cons_of_mem | apply List.mem_append_right)) (by rfl) ⟨_, rfl, ?_⟩)
    refine WL.h rfl (Hd.buildA (e := 46) (sz := 3) (zs := [.string ⟨#[]⟩, .int .i64 0, .int .i64 0]) (by kernel_rfl) (by kernel_rfl) (by kernel_rfl) rfl rfl (by rfl) (by kernel_rfl) fun b19 => ⟨_, rfl, ?_⟩)
    refine WL.h rfl (Hd.appendRow (e := 46) (sz := 3) (bytes := 32) (zs := [.string ⟨#[]⟩, .int .i64 0, .int .i64 0]) (by kernel_rfl) (by kernel_rfl) rfl (by omega) rfl rfl (ho) (by repeat (first | exact Sp.here | exact Sp.sn | exact Sp.s0 | exact Fr.here | apply Sp.s2 | apply Sp.sx | apply Fr.fc | apply Fr.al | apply Fr.fa | apply Sp.sc | apply Sp.al | apply Sp.sa)) (by repeat (first | exact List.mem_cons_self | apply List.mem_cons_of_mem | apply List.mem_append_right)) (by rfl) (by repeat (first | exact fun _ h => absurd h List.not_mem_nil | refine List.forall_mem_cons.2 ⟨by first | rfl | assumption, ?_⟩)) (by simp only [maxLen]; omega) (by omega) fun v2 Ca ho2 => ⟨_, rfl, ?_⟩)
    refine WL.y rfl (Yd.assign rfl) ?_
    refine WL.nil ?_
    refine DN.block_normal ?_
    have hcl2 := hs2.len hbn
    have hcl3 : (col ++ [e]).length = col.length + 1 := by simp
    exact DN.againS (⟨col ++ [e], B ++ [b], seen.push e.born, v2, Ca⟩) (show Seen es (col ++ [e]) (seen.push e.born) ∧ (col ++ [e]).map (fun e : MapEntry => (e.key, e.val)) = (B ++ [b]).map (fun r : Au => (kStr.kv (Au.name r), encU r)) ∧ Own v2 (B ++ [b]).length ((B ++ [b]).flatMap cellsU) 46 3 Ca from ⟨hs2, by rw [List.map_append, List.map_append, hB]; simp [hek, hev], by rw [List.flatMap_append, List.length_append]; simpa [cellsU, cellsP] using ho2⟩) (show es.size - (col ++ [e]).length < es.size - col.length by omega) (Sx.put rfl ((by repeat (first | exact Sx.refl | refine Sx.skip rfl ?_)))) (by repeat (first | exact Sp.here | exact Sp.sn | exact Sp.s0 | exact Fr.here | apply Sp.s2 | apply Sp.sx | apply Fr.fc | apply Fr.al | apply Fr.fa | apply Sp.sc | apply Sp.al | apply Sp.sa))
  · refine WL.y rfl (Yd.extract rfl rfl) ?_
    refine WL.nil ?_
    refine DN.then_normal ?_
    refine WC.seq ?_
    refine WC.no rfl ?_
    refine WC.exit ?_
    refine DN.then_exit ?_
    refine DN.then_exit ?_
    refine DN.block_exit ?_
    refine DN.then_normal ?_
    refine WC.seq ?_
    refine WC.region ?_
    refine WL.y rfl (Yd.move rfl) ?_
    refine WL.c rfl (Ent.func Try.call30 rfl) (sort_tells Try.sortU 3 (by omega) Try.isAgg46 Try.sizeOf46 cellsU cellsU_len cellsU_one cfU swoU 31 Try.call31 cmpU_tells ho (by omega)) (Sp.p (by repeat (first | exact Sp.here | exact Sp.sn | exact Sp.s0 | exact Fr.here | apply Sp.s2 | apply Sp.sx | apply Fr.fc | apply Fr.al | apply Fr.fa | apply Sp.sc | apply Sp.al | apply Sp.sa))) ?_
    rintro q Cz ⟨rfl, S, hS, hpw, ho2⟩
    refine WL.nil ?_
    refine DN.then_normal ?_
    refine WC.seq ?_
    refine WC.region ?_
    refine WL.y rfl (Yd.move rfl) ?_
    refine WL.y rfl (Yd.assign rfl) ?_
    refine WL.nil ?_
    refine DN.then_normal ?_
    refine WC.ret ?_
    refine DN.fit (C := Cz ++ (row p [.map (some b1), .map (some b2)] 57 :: ([⟨b1, .map es clock, true⟩] ++ C2))) (by repeat (first | exact Sp.here | exact Sp.sn | exact Sp.s0 | exact Fr.here | apply Sp.s2 | apply Sp.sx | apply Fr.fc | apply Fr.al | apply Fr.fa | apply Sp.sc | apply Sp.al | apply Sp.sa)) ?_
    refine DN.ret1 Try.results16 rfl ?_
    exact ⟨S, Cz, ⟨hS.trans (entsK_all injU hes (hs.all hbn hu) hB), hpw.imp fun {x y} hxy => by rw [← hxy]; exact (ltU y x).symm⟩, by rw [hS.length_eq]; rwa [hS.length_eq] at ho2, rfl⟩

/-- (*drayage/purse.Purse).Pays -/
theorem pays_tells (p : Nat) (K : List Au) (L : List Py) (C : List Ck) (h : PsAt 57 p K L C) (hl : L.length ≤ 100000000) : Tells Try.prog 17 [.pointer (some ⟨p, 0, none⟩)] C fun r C' => ∃ S Cs, ToldK Py.o uLt L S ∧ Own r S.length (S.flatMap cellsP) 48 4 Cs ∧ C' = Cs ++ C := by
  refine Tells.enter Try.func17 rfl Try.ntmps17 rfl ?_
  intro w0 R
  obtain ⟨b1, b2, C1, C2, rfl, hK, hL⟩ := h
  obtain ⟨es, clock, rfl, hes, hborn, hbn⟩ := hL
  have hsz := hes.size
  simp only [kvs, List.length_map] at hsz
  refine WC.seq ?_
  refine WC.region ?_
  refine WL.y rfl (Yd.assign rfl) ?_
  refine WL.nil ?_
  refine DN.then_normal ?_
  refine WC.seq ?_
  refine WC.seq ?_
  refine WC.region ?_
  refine WL.y rfl (Yd.move rfl) ?_
  refine WL.y rfl (Yd.eqlNil Try.underlying26 rfl rfl) ?_
  refine WL.nil ?_
  refine DN.then_normal ?_
  refine WC.no rfl ?_
  refine WC.skip ?_
  refine DN.then_normal ?_
  refine WC.seq ?_
  refine WC.region ?_
  refine WL.y rfl (Yd.assign rfl) ?_
  refine WL.nil ?_
  refine DN.then_normal ?_
  refine WC.seq ?_
  refine WC.seq ?_
  refine WC.region ?_
  refine WL.y rfl (Yd.move rfl) ?_
  refine WL.y rfl (Yd.notNil rfl) ?_
  refine WL.y rfl (Yd.fieldAddr (k := 1) (by kernel_rfl) rfl) ?_
  refine WL.h rfl (Hd.load1 (by kernel_rfl) rfl (by repeat (first | exact List.mem_cons_self | apply List.mem_cons_of_mem | apply List.mem_append_right)) (by rfl) ⟨_, rfl, ?_⟩)
  refine WL.h rfl (Hd.rangeM (KT := 33) (ET := 48) (by kernel_rfl) rfl (by repeat (first | exact List.mem_cons_self | apply List.mem_cons_of_mem | apply List.mem_append_right)) fun i => ⟨_, rfl, ?_⟩)
  refine WL.nil ?_
  refine DN.then_normal ?_
  refine WC.block ?_
  refine WC.loopS (fun z : List MapEntry × List Py × (Array Nat) × Value × List Ck => Seen es z.1 z.2.2.1 ∧ z.1.map (fun e : MapEntry => (e.key, e.val)) = z.2.1.map (fun r : Py => (kU32.kv (Py.o r), encP r)) ∧ Own z.2.2.2.1 z.2.1.length (z.2.1.flatMap cellsP) 48 4 z.2.2.2.2) (fun z : List MapEntry × List Py × (Array Nat) × Value × List Ck => [(3, z.2.2.2.1)]) (fun z : List MapEntry × List Py × (Array Nat) × Value × List Ck => ⟨i, .mapIter (some b2) clock z.2.2.1 clock, true⟩ :: (z.2.2.2.2 ++ (row p [.map (some b1), .map (some b2)] 57 :: (C1 ++ [⟨b2, .map es clock, true⟩])))) (fun z : List MapEntry × List Py × (Array Nat) × Value × List Ck => es.size - z.1.length) (⟨[], [], #[], .slice none 0 0, []⟩) (show Seen es [] #[] ∧ [].map (fun e : MapEntry => (e.key, e.val)) = [].map (fun r : Py => (kU32.kv (Py.o r), encP r)) ∧ Own (.slice none 0 0) [].length ([].flatMap cellsP) 48 4 [] from ⟨Seen.start es, rfl, Own.nil _ _⟩) (Sx.put rfl ((by repeat (first | exact Sx.refl | refine Sx.skip rfl ?_)))) (by repeat (first | exact Sp.here | exact Sp.sn | exact Sp.s0 | exact Fr.here | apply Sp.s2 | apply Sp.sx | apply Fr.fc | apply Fr.al | apply Fr.fa | apply Sp.sc | apply Sp.al | apply Sp.sa)) ?_
  rintro ⟨col, B, seen, v, Cs⟩ hI
  replace hI : Seen es col seen ∧ col.map (fun e : MapEntry => (e.key, e.val)) = B.map (fun r : Py => (kU32.kv (Py.o r), encP r)) ∧ Own v B.length (B.flatMap cellsP) 48 4 Cs := hI
  obtain ⟨hs, hB, ho⟩ := hI
  change WC _ _ _ _ _ _ ([(3, v)] ++ _) (⟨i, .mapIter (some b2) clock seen clock, true⟩ :: (Cs ++ (row p [.map (some b1), .map (some b2)] 57 :: (C1 ++ [⟨b2, .map es clock, true⟩]))))
  have hcl := hs.len hbn
  obtain ⟨vo, vc, rfl, _⟩ := ho.form
  have hBl : B.length = col.length := by simpa using (congrArg List.length hB).symm
  refine WC.seq ?_
  refine WC.region ?_
  refine WL.h rfl (Hd.nextM rfl (by repeat (first | exact Fr.here | apply Fr.fc | apply Fr.al | apply Fr.fa)) (by repeat (first | exact List.mem_cons_self | apply List.mem_cons_of_mem | apply List.mem_append_right)) hborn (fun e he => ⟨_, rfl, ?_⟩) (fun hu => ⟨_, rfl, ?_⟩))
  · obtain ⟨hs2, hee⟩ := hs.next he
    obtain ⟨b, hbL, hek, hev⟩ := entsK_one hes hee
    refine WL.y rfl (Yd.extract rfl rfl) ?_
    refine WL.nil ?_
    refine DN.then_normal ?_
    refine WC.seq ?_
    refine WC.yes rfl ?_
    refine WC.skip ?_
    refine DN.then_normal ?_
    refine WC.block ?_
    refine WC.seq ?_
    refine WC.region ?_
    refine WL.h rfl (Hd.entryM rfl List.mem_cons_self (by repeat (first | exact List.mem_cons_self | apply List.mem_cons_of_mem | apply List.mem_append_right)) hbn hee ⟨_, rfl, ?_⟩)
    refine WL.y rfl (Yd.extract rfl rfl) ?_
    refine WL.renamed (t := 16) (v := .agg (cellsP b).toArray) rfl (by show e.val = _; rw [hev]; rfl) ?_
    refine WL.h rfl (Hd.alloc (zs := [.int .u32 0, .string ⟨#[]⟩, .int .i64 0, .int .i64 0]) (by kernel_rfl) fun b5 => ⟨_, rfl, ?_⟩)
    refine WL.s (Hd.storeAll (n := 4) (by kernel_rfl) rfl rfl (by rfl) (by repeat (first | exact fun _ h => absurd h List.not_mem_nil | refine List.forall_mem_cons.2 ⟨by first | rfl | assumption, ?_⟩)) (by repeat (first | exact Fr.here | apply Fr.fc | apply Fr.al | apply Fr.fa)) (by rfl) ⟨rfl, ?_⟩)
    refine WL.nil ?_
    refine DN.then_normal ?_
    refine WC.region ?_
    refine WL.y rfl (Yd.move rfl) ?_
    refine WL.h rfl (Hd.loadAll (n := 4) (by kernel_rfl) rfl (by repeat (first | exact List.mem_cons_self | apply List.mem_cons_of_mem | apply List.mem_append_right)) (by rfl) ⟨_, rfl, ?_⟩)
    refine WL.h rfl (Hd.buildA (e := 48) (sz := 4) (zs := [.int .u32 0, .string ⟨#[]⟩, .int .i64 0, .int .i64 0]) (by kernel_rfl) (by kernel_rfl) (by kernel_rfl) rfl rfl (by rfl) (by kernel_rfl) fun b19 => ⟨_, rfl, ?_⟩)
    refine WL.h rfl (Hd.appendRow (e := 48) (sz := 4) (bytes := 40) (zs := [.int .u32 0, .string ⟨#[]⟩, .int .i64 0, .int .i64 0]) (by kernel_rfl) (by kernel_rfl) rfl (by omega) rfl rfl (ho) (by repeat (first | exact Sp.here | exact Sp.sn | exact Sp.s0 | exact Fr.here | apply Sp.s2 | apply Sp.sx | apply Fr.fc | apply Fr.al | apply Fr.fa | apply Sp.sc | apply Sp.al | apply Sp.sa)) (by repeat (first | exact List.mem_cons_self | apply List.mem_cons_of_mem | apply List.mem_append_right)) (by rfl) (by repeat (first | exact fun _ h => absurd h List.not_mem_nil | refine List.forall_mem_cons.2 ⟨by first | rfl | assumption, ?_⟩)) (by simp only [maxLen]; omega) (by omega) fun v2 Ca ho2 => ⟨_, rfl, ?_⟩)
    refine WL.y rfl (Yd.assign rfl) ?_
    refine WL.nil ?_
    refine DN.block_normal ?_
    have hcl2 := hs2.len hbn
    have hcl3 : (col ++ [e]).length = col.length + 1 := by simp
    exact DN.againS (⟨col ++ [e], B ++ [b], seen.push e.born, v2, Ca⟩) (show Seen es (col ++ [e]) (seen.push e.born) ∧ (col ++ [e]).map (fun e : MapEntry => (e.key, e.val)) = (B ++ [b]).map (fun r : Py => (kU32.kv (Py.o r), encP r)) ∧ Own v2 (B ++ [b]).length ((B ++ [b]).flatMap cellsP) 48 4 Ca from ⟨hs2, by rw [List.map_append, List.map_append, hB]; simp [hek, hev], by rw [List.flatMap_append, List.length_append]; simpa [cellsU, cellsP] using ho2⟩) (show es.size - (col ++ [e]).length < es.size - col.length by omega) (Sx.put rfl ((by repeat (first | exact Sx.refl | refine Sx.skip rfl ?_)))) (by repeat (first | exact Sp.here | exact Sp.sn | exact Sp.s0 | exact Fr.here | apply Sp.s2 | apply Sp.sx | apply Fr.fc | apply Fr.al | apply Fr.fa | apply Sp.sc | apply Sp.al | apply Sp.sa))
  · refine WL.y rfl (Yd.extract rfl rfl) ?_
    refine WL.nil ?_
    refine DN.then_normal ?_
    refine WC.seq ?_
    refine WC.no rfl ?_
    refine WC.exit ?_
    refine DN.then_exit ?_
    refine DN.then_exit ?_
    refine DN.block_exit ?_
    refine DN.then_normal ?_
    refine WC.seq ?_
    refine WC.region ?_
    refine WL.y rfl (Yd.move rfl) ?_
    refine WL.c rfl (Ent.func Try.call33 rfl) (sort_tells Try.sortP 4 (by omega) Try.isAgg48 Try.sizeOf48 cellsP cellsP_len cellsP_one cfP swoP 34 Try.call34 cmpP_tells ho (by omega)) (Sp.p (by repeat (first | exact Sp.here | exact Sp.sn | exact Sp.s0 | exact Fr.here | apply Sp.s2 | apply Sp.sx | apply Fr.fc | apply Fr.al | apply Fr.fa | apply Sp.sc | apply Sp.al | apply Sp.sa))) ?_
    rintro q Cz ⟨rfl, S, hS, hpw, ho2⟩
    refine WL.nil ?_
    refine DN.then_normal ?_
    refine WC.seq ?_
    refine WC.region ?_
    refine WL.y rfl (Yd.move rfl) ?_
    refine WL.y rfl (Yd.assign rfl) ?_
    refine WL.nil ?_
    refine DN.then_normal ?_
    refine WC.ret ?_
    refine DN.fit (C := Cz ++ (row p [.map (some b1), .map (some b2)] 57 :: (C1 ++ [⟨b2, .map es clock, true⟩]))) (by repeat (first | exact Sp.here | exact Sp.sn | exact Sp.s0 | exact Fr.here | apply Sp.s2 | apply Sp.sx | apply Fr.fc | apply Fr.al | apply Fr.fa | apply Sp.sc | apply Sp.al | apply Sp.sa)) ?_
    refine DN.ret1 Try.results17 rfl ?_
    exact ⟨S, Cz, ⟨hS.trans (entsK_all injP hes (hs.all hbn hu) hB), hpw.imp fun {x y} hxy => by rw [← hxy]; exact (ltP y x).symm⟩, by rw [hS.length_eq]; rwa [hS.length_eq] at ho2, rfl⟩

/-- (*drayage/purse.Purse).Taken -/
theorem taken_reads (p : Nat) (first K : List Au) (L : List Py) (C : List Ck) (h : PsAt 57 p K L C) (inv : PInv first K L) (hl : L.length ≤ 100000000) : Reads Try.prog 22 [.pointer (some ⟨p, 0, none⟩)] C (.int .i64 (takenL L)) := by
  refine Tells.enter Try.func22 rfl Try.ntmps22 rfl ?_
  intro w0 R
  have htk := inv.taken
  refine WC.seq ?_
  refine WC.region ?_
  refine WL.y rfl (Yd.assign rfl) ?_
  refine WL.nil ?_
  refine DN.then_normal ?_
  refine WC.seq ?_
  refine WC.region ?_
  refine WL.y rfl (Yd.assign rfl) ?_
  refine WL.nil ?_
  refine DN.then_normal ?_
  refine WC.seq ?_
  refine WC.seq ?_
  refine WC.region ?_
  refine WL.y rfl (Yd.move rfl) ?_
  refine WL.c rfl (Ent.func Try.call17 rfl) (pays_tells p K L C h hl) (Sp.p (by repeat (first | exact Sp.here | exact Sp.sn | exact Sp.s0 | exact Fr.here | apply Sp.s2 | apply Sp.sx | apply Fr.fc | apply Fr.al | apply Fr.fa | apply Sp.sc | apply Sp.al | apply Sp.sa))) ?_
  rintro q C2 ⟨S, Cs, hT, ho, rfl⟩
  have hSl := hT.perm.length_eq
  obtain ⟨so, sc, rfl, _⟩ := ho.form
  have hSp : ∀ x ∈ S, 1 ≤ x.n := fun x hx => (inv.pays x (hT.perm.mem_iff.1 hx)).1
  have hSt := taken_perm hT.perm
  refine WL.y rfl (Yd.len (e := 48) (by kernel_rfl) rfl) ?_
  refine WL.y rfl (Yd.move rfl) ?_
  refine WL.nil ?_
  refine DN.then_normal ?_
  refine WC.block ?_
  refine WC.loopS (fun z : Nat × Int => z.1 ≤ S.length ∧ z.2 = takenL (S.take z.1)) (fun z : Nat × Int => [(9, .int .i64 (z.1 : Int)), (3, .int .i64 z.2)]) (fun z : Nat × Int => Cs ++ C) (fun z : Nat × Int => S.length - z.1) (⟨0, 0⟩) (show 0 ≤ S.length ∧ 0 = takenL (S.take 0) from ⟨Nat.zero_le _, by simp [takenL]⟩) (Sx.put rfl (Sx.put rfl ((by repeat (first | exact Sx.refl | refine Sx.skip rfl ?_))))) (by repeat (first | exact Sp.here | exact Sp.sn | exact Sp.s0 | exact Fr.here | apply Sp.s2 | apply Sp.sx | apply Fr.fc | apply Fr.al | apply Fr.fa | apply Sp.sc | apply Sp.al | apply Sp.sa)) ?_
  rintro ⟨j, z⟩ hI
  replace hI : j ≤ S.length ∧ z = takenL (S.take j) := hI
  obtain ⟨hj, hz⟩ := hI
  change WC _ _ _ _ _ _ ([(9, .int .i64 (j : Int)), (3, .int .i64 z)] ++ _) (Cs ++ C)
  refine WC.seq ?_
  refine WC.region ?_
  refine WL.y rfl (Yd.lss rfl rfl) ?_
  refine WL.nil ?_
  refine DN.then_normal ?_
  refine WC.seq ?_
  refine WC.ite rfl (fun h10 => ?_) (fun h10 => ?_)
  · have hjl : j < S.length := by omega
    have hst := taken_take hjl
    have hp0 := taken_part hSp j
    have hp1 := taken_part hSp (j + 1)
    have hpn := hSp S[j] (List.getElem_mem hjl)
    refine WC.skip ?_
    refine DN.then_normal ?_
    refine WC.seq ?_
    refine WC.block ?_
    refine WC.seq ?_
    refine WC.region ?_
    refine WL.elemA (e := 48) (s := 4) (by kernel_rfl) (by kernel_rfl) (by kernel_rfl) rfl rfl (rfl) (ho.rs.mono (by repeat (first | exact Gr.refl | exact Gr.left Gr.refl | exact Gr.left (Gr.left Gr.refl) | exact Gr.left (Gr.app Gr.refl) | exact Gr.left (Gr.left (Gr.left Gr.refl)) | exact Gr.nil | exact Gr.app (Gr.left Gr.refl) | refine Gr.cons ?_ | refine Gr.app ?_ | refine Gr.both ?_ ?_ | refine Gr.put (by repeat (first | exact List.mem_cons_self | apply List.mem_cons_of_mem | apply List.mem_append_right)) ?_))) (flat_row cellsP 4 cellsP_len S j hjl) (by rfl) (by omega) (hjl) rfl rfl ?_
    intro p11
    refine WL.h rfl (Hd.alloc (zs := [.int .u32 0, .string ⟨#[]⟩, .int .i64 0, .int .i64 0]) (by kernel_rfl) fun b5 => ⟨_, rfl, ?_⟩)
    refine WL.s (Hd.storeAll (n := 4) (by kernel_rfl) rfl rfl (by rfl) (by repeat (first | exact fun _ h => absurd h List.not_mem_nil | refine List.forall_mem_cons.2 ⟨by first | rfl | assumption, ?_⟩)) (by repeat (first | exact Fr.here | apply Fr.fc | apply Fr.al | apply Fr.fa)) (by rfl) ⟨rfl, ?_⟩)
    refine WL.nil ?_
    refine DN.then_normal ?_
    refine WC.seq ?_
    refine WC.region ?_
    refine WL.y rfl (Yd.fieldAddr (k := 3) (by kernel_rfl) rfl) ?_
    refine WL.h rfl (Hd.load1 (by kernel_rfl) rfl (by repeat (first | exact List.mem_cons_self | apply List.mem_cons_of_mem | apply List.mem_append_right)) (by rfl) ⟨_, rfl, ?_⟩)
    refine WL.y rfl (Yd.eql rfl rfl) ?_
    refine WL.nil ?_
    refine DN.then_normal ?_
    refine WC.ite rfl (fun h15 => ?_) (fun h15 => ?_)
    · rw [if_pos h15] at hst
      refine WC.region ?_
      refine WL.y rfl (Yd.move rfl) ?_
      refine WL.y rfl (Yd.fieldAddr (k := 2) (by kernel_rfl) rfl) ?_
      refine WL.h rfl (Hd.load1 (by kernel_rfl) rfl (by repeat (first | exact List.mem_cons_self | apply List.mem_cons_of_mem | apply List.mem_append_right)) (by rfl) ⟨_, rfl, ?_⟩)
      refine WL.y rfl (Yd.add rfl rfl (by omega) (by omega)) ?_
      refine WL.y rfl (Yd.assign rfl) ?_
      refine WL.nil ?_
      refine DN.block_normal ?_
      refine DN.then_normal ?_
      refine WC.region ?_
      refine WL.y rfl (Yd.add rfl rfl (by omega) (by omega)) ?_
      refine WL.y rfl (Yd.move rfl) ?_
      refine WL.nil ?_
      exact DN.againS (⟨j + 1, z + S[j].n⟩) (show (j + 1) ≤ S.length ∧ (z + S[j].n) = takenL (S.take (j + 1)) from ⟨by omega, by omega⟩) (show S.length - (j + 1) < S.length - j by omega) (Sx.put rfl (Sx.put rfl ((by repeat (first | exact Sx.refl | refine Sx.skip rfl ?_))))) (by repeat (first | exact Sp.here | exact Sp.sn | exact Sp.s0 | exact Fr.here | apply Sp.s2 | apply Sp.sx | apply Fr.fc | apply Fr.al | apply Fr.fa | apply Sp.sc | apply Sp.al | apply Sp.sa))
    · rw [if_neg h15] at hst
      refine WC.skip ?_
      refine DN.block_normal ?_
      refine DN.then_normal ?_
      refine WC.region ?_
      refine WL.y rfl (Yd.add rfl rfl (by omega) (by omega)) ?_
      refine WL.y rfl (Yd.move rfl) ?_
      refine WL.nil ?_
      exact DN.againS (⟨j + 1, z⟩) (show (j + 1) ≤ S.length ∧ z = takenL (S.take (j + 1)) from ⟨by omega, by omega⟩) (show S.length - (j + 1) < S.length - j by omega) (Sx.put rfl (Sx.put rfl ((by repeat (first | exact Sx.refl | refine Sx.skip rfl ?_))))) (by repeat (first | exact Sp.here | exact Sp.sn | exact Sp.s0 | exact Fr.here | apply Sp.s2 | apply Sp.sx | apply Fr.fc | apply Fr.al | apply Fr.fa | apply Sp.sc | apply Sp.al | apply Sp.sa))
  · obtain rfl : j = S.length := by omega
    rw [List.take_length] at hz
    refine WC.exit ?_
    refine DN.then_exit ?_
    refine DN.then_exit ?_
    refine DN.block_exit ?_
    refine DN.then_normal ?_
    refine WC.seq ?_
    refine WC.region ?_
    refine WL.y rfl (Yd.move rfl) ?_
    refine WL.y rfl (Yd.assign rfl) ?_
    refine WL.nil ?_
    refine DN.then_normal ?_
    refine WC.ret ?_
    refine DN.fit (C := C) (by repeat (first | exact Sp.here | exact Sp.sn | exact Sp.s0 | exact Fr.here | apply Sp.s2 | apply Sp.sx | apply Fr.fc | apply Fr.al | apply Fr.fa | apply Sp.sc | apply Sp.al | apply Sp.sa)) ?_
    refine DN.ret1 Try.results22 rfl ?_
    exact ⟨by rw [hz, hSt], rfl⟩

end Go.Proofs.Ytllfnigodikbaaa
