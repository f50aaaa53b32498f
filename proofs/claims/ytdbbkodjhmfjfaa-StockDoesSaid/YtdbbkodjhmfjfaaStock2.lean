/-
  The walks of the stock: goods and holds told in order.
-/
import Derived.Test.YtdbbkodjhmfjfaaStock1
import Derived.Ground.SlsfProg
import Derived.Shelf.Small.Strs
set_option linter.unusedVariables false
set_option linter.unusedSimpArgs false
set_option maxHeartbeats 4000000
namespace Go.Proofs
def Try.sortG_ren : Go.Shelf.Ren := ⟨fun | 6 => 27 | 15 => 36 | 14 => 35 | 28 => 47 | 29 => 48 | 20 => 39 | 21 => 40 | 22 => 41 | 23 => 42 | 24 => 43 | 25 => 44 | 26 => 45 | 27 => 46 | 46 => 58 | 47 => 59 | 48 => 60 | 49 => 61 | 50 => 62 | 57 => 66 | n => n, fun | 22 => 22 | 24 => 32 | 25 => 63 | 3 => 3 | 39 => 33 | 0 => 0 | 53 => 23 | 55 => 82 | 4 => 4 | 46 => 75 | 45 => 74 | 50 => 79 | 5 => 5 | 9 => 9 | 66 => 88 | 70 => 92 | 76 => 96 | 77 => 97 | n => n, fun | n => n⟩
theorem Try.sortG : SlLaysF0.n6 Try.prog Try.sortG_ren := {
  mixed := by kernel_rfl,
  f6 := ⟨Try.f27.name, by decide, Try.func27.trans (congrArg some (by kernel_rfl))⟩,
  f14 := ⟨Try.f35.name, by decide, Try.func35.trans (congrArg some (by kernel_rfl))⟩,
  f15 := Try.func36.trans (congrArg some (by kernel_rfl)),
  f20 := ⟨Try.f39.name, by decide, Try.func39.trans (congrArg some (by kernel_rfl))⟩,
  f21 := ⟨Try.f40.name, by decide, Try.func40.trans (congrArg some (by kernel_rfl))⟩,
  f22 := ⟨Try.f41.name, by decide, Try.func41.trans (congrArg some (by kernel_rfl))⟩,
  f23 := ⟨Try.f42.name, by decide, Try.func42.trans (congrArg some (by kernel_rfl))⟩,
  f24 := ⟨Try.f43.name, by decide, Try.func43.trans (congrArg some (by kernel_rfl))⟩,
  f25 := ⟨Try.f44.name, by decide, Try.func44.trans (congrArg some (by kernel_rfl))⟩,
  f26 := ⟨Try.f45.name, by decide, Try.func45.trans (congrArg some (by kernel_rfl))⟩,
  f27 := ⟨Try.f46.name, by decide, Try.func46.trans (congrArg some (by kernel_rfl))⟩,
  f28 := Try.func47.trans (congrArg some (by kernel_rfl)),
  f29 := Try.func48.trans (congrArg some (by kernel_rfl)),
  f46 := ⟨Try.f58.name, by decide, Try.func58.trans (congrArg some (by kernel_rfl))⟩,
  f47 := Try.func59.trans (congrArg some (by kernel_rfl)),
  f48 := Try.func60.trans (congrArg some (by kernel_rfl)),
  f49 := ⟨Try.f61.name, by decide, Try.func61.trans (congrArg some (by kernel_rfl))⟩,
  f50 := ⟨Try.f62.name, by decide, Try.func62.trans (congrArg some (by kernel_rfl))⟩,
  f57 := ⟨Try.f66.name, by decide, Try.func66.trans (congrArg some (by kernel_rfl))⟩,
  t0 := Try.underlying0,
  a0 := Try.isAgg0,
  z0 := Try.sizeOf0,
  v0 := Try.zeroValue0,
  t3 := Try.underlying3,
  a3 := Try.isAgg3,
  z3 := Try.sizeOf3,
  v3 := Try.zeroValue3,
  t4 := Try.underlying4,
  a4 := Try.isAgg4,
  z4 := Try.sizeOf4,
  v4 := Try.zeroValue4,
  t5 := Try.underlying5,
  a5 := Try.isAgg5,
  z5 := Try.sizeOf5,
  v5 := Try.zeroValue5,
  t9 := Try.underlying9,
  a9 := Try.isAgg9,
  z9 := Try.sizeOf9,
  v9 := Try.zeroValue9,
  t22 := Try.underlying22,
  a22 := Try.isAgg22,
  z22 := Try.sizeOf22,
  v22 := Try.zeroValue22,
  t25 := Try.underlying63,
  a25 := Try.isAgg63,
  z25 := Try.sizeOf63,
  v25 := Try.zeroValue63,
  t39 := Try.underlying33,
  a39 := Try.isAgg33,
  z39 := Try.sizeOf33,
  v39 := Try.zeroValue33,
  t45 := Try.underlying74,
  a45 := Try.isAgg74,
  z45 := Try.sizeOf74,
  v45 := Try.zeroValue74,
  t46 := Try.underlying75,
  a46 := Try.isAgg75,
  z46 := Try.sizeOf75,
  v46 := Try.zeroValue75,
  t50 := Try.underlying79,
  a50 := Try.isAgg79,
  z50 := Try.sizeOf79,
  v50 := Try.zeroValue79,
  t53 := Try.underlying23,
  a53 := Try.isAgg23,
  z53 := Try.sizeOf23,
  v53 := Try.zeroValue23,
  t55 := Try.underlying82,
  a55 := Try.isAgg82,
  z55 := Try.sizeOf82,
  v55 := Try.zeroValue82,
  t66 := Try.underlying88,
  a66 := Try.isAgg88,
  z66 := Try.sizeOf88,
  v66 := Try.zeroValue88,
  t70 := Try.underlying92,
  a70 := Try.isAgg92,
  z70 := Try.sizeOf92,
  v70 := Try.zeroValue92,
  t76 := Try.underlying96,
  a76 := Try.isAgg96,
  z76 := Try.sizeOf96,
  v76 := Try.zeroValue96,
  t77 := Try.underlying97,
  a77 := Try.isAgg97,
  z77 := Try.sizeOf97,
  v77 := Try.zeroValue97
}
def Try.sortH_ren : Go.Shelf.Ren := ⟨fun | 6 => 31 | 15 => 36 | 14 => 38 | 28 => 47 | 29 => 48 | 20 => 50 | 21 => 51 | 22 => 52 | 23 => 53 | 24 => 54 | 25 => 55 | 26 => 56 | 27 => 57 | 46 => 63 | 47 => 59 | 48 => 60 | 49 => 64 | 50 => 65 | 57 => 67 | n => n, fun | 22 => 44 | 24 => 50 | 25 => 68 | 3 => 3 | 39 => 33 | 0 => 0 | 53 => 23 | 55 => 82 | 4 => 4 | 46 => 75 | 45 => 74 | 50 => 79 | 5 => 5 | 9 => 9 | 66 => 88 | 70 => 92 | 76 => 96 | 77 => 97 | n => n, fun | n => n⟩
theorem Try.sortH : SlLaysF0.n6 Try.prog Try.sortH_ren := {
  mixed := by kernel_rfl,
  f6 := ⟨Try.f31.name, by decide, Try.func31.trans (congrArg some (by kernel_rfl))⟩,
  f14 := ⟨Try.f38.name, by decide, Try.func38.trans (congrArg some (by kernel_rfl))⟩,
  f15 := Try.func36.trans (congrArg some (by kernel_rfl)),
  f20 := ⟨Try.f50.name, by decide, Try.func50.trans (congrArg some (by kernel_rfl))⟩,
  f21 := ⟨Try.f51.name, by decide, Try.func51.trans (congrArg some (by kernel_rfl))⟩,
  f22 := ⟨Try.f52.name, by decide, Try.func52.trans (congrArg some (by kernel_rfl))⟩,
  f23 := ⟨Try.f53.name, by decide, Try.func53.trans (congrArg some (by kernel_rfl))⟩,
  f24 := ⟨Try.f54.name, by decide, Try.func54.trans (congrArg some (by kernel_rfl))⟩,
  f25 := ⟨Try.f55.name, by decide, Try.func55.trans (congrArg some (by kernel_rfl))⟩,
  f26 := ⟨Try.f56.name, by decide, Try.func56.trans (congrArg some (by kernel_rfl))⟩,
  f27 := ⟨Try.f57.name, by decide, Try.func57.trans (congrArg some (by kernel_rfl))⟩,
  f28 := Try.func47.trans (congrArg some (by kernel_rfl)),
  f29 := Try.func48.trans (congrArg some (by kernel_rfl)),
  f46 := ⟨Try.f63.name, by decide, Try.func63.trans (congrArg some (by kernel_rfl))⟩,
  f47 := Try.func59.trans (congrArg some (by kernel_rfl)),
  f48 := Try.func60.trans (congrArg some (by kernel_rfl)),
  f49 := ⟨Try.f64.name, by decide, Try.func64.trans (congrArg some (by kernel_rfl))⟩,
  f50 := ⟨Try.f65.name, by decide, Try.func65.trans (congrArg some (by kernel_rfl))⟩,
  f57 := ⟨Try.f67.name, by decide, Try.func67.trans (congrArg some (by kernel_rfl))⟩,
  t0 := Try.underlying0,
  a0 := Try.isAgg0,
  z0 := Try.sizeOf0,
  v0 := Try.zeroValue0,
  t3 := Try.underlying3,
  a3 := Try.isAgg3,
  z3 := Try.sizeOf3,
  v3 := Try.zeroValue3,
  t4 := Try.underlying4,
  a4 := Try.isAgg4,
  z4 := Try.sizeOf4,
  v4 := Try.zeroValue4,
  t5 := Try.underlying5,
  a5 := Try.isAgg5,
  z5 := Try.sizeOf5,
  v5 := Try.zeroValue5,
  t9 := Try.underlying9,
  a9 := Try.isAgg9,
  z9 := Try.sizeOf9,
  v9 := Try.zeroValue9,
  t22 := Try.underlying44,
  a22 := Try.isAgg44,
  z22 := Try.sizeOf44,
  v22 := Try.zeroValue44,
  t25 := Try.underlying68,
  a25 := Try.isAgg68,
  z25 := Try.sizeOf68,
  v25 := Try.zeroValue68,
  t39 := Try.underlying33,
  a39 := Try.isAgg33,
  z39 := Try.sizeOf33,
  v39 := Try.zeroValue33,
  t45 := Try.underlying74,
  a45 := Try.isAgg74,
  z45 := Try.sizeOf74,
  v45 := Try.zeroValue74,
  t46 := Try.underlying75,
  a46 := Try.isAgg75,
  z46 := Try.sizeOf75,
  v46 := Try.zeroValue75,
  t50 := Try.underlying79,
  a50 := Try.isAgg79,
  z50 := Try.sizeOf79,
  v50 := Try.zeroValue79,
  t53 := Try.underlying23,
  a53 := Try.isAgg23,
  z53 := Try.sizeOf23,
  v53 := Try.zeroValue23,
  t55 := Try.underlying82,
  a55 := Try.isAgg82,
  z55 := Try.sizeOf82,
  v55 := Try.zeroValue82,
  t66 := Try.underlying88,
  a66 := Try.isAgg88,
  z66 := Try.sizeOf88,
  v66 := Try.zeroValue88,
  t70 := Try.underlying92,
  a70 := Try.isAgg92,
  z70 := Try.sizeOf92,
  v70 := Try.zeroValue92,
  t76 := Try.underlying96,
  a76 := Try.isAgg96,
  z76 := Try.sizeOf96,
  v76 := Try.zeroValue96,
  t77 := Try.underlying97,
  a77 := Try.isAgg97,
  z77 := Try.sizeOf97,
  v77 := Try.zeroValue97
}

def Try.cmp_ren : Go.Shelf.Ren := ⟨fun | 106 => 29 | 213 => 37 | 265 => 49 | n => n, fun | 3 => 3 | 9 => 9 | n => n, fun | n => n⟩
theorem Try.cmpStr : Lays.n106 Try.prog Try.cmp_ren := {
  mixed := by kernel_rfl,
  f106 := Try.func29.trans (congrArg some (by kernel_rfl)),
  f213 := Try.func37.trans (congrArg some (by kernel_rfl)),
  f265 := Try.func49.trans (congrArg some (by kernel_rfl)),
  t3 := Try.underlying3, a3 := Try.isAgg3, z3 := Try.sizeOf3, v3 := Try.zeroValue3,
  t9 := Try.underlying9, a9 := Try.isAgg9, z9 := Try.sizeOf9, v9 := Try.zeroValue9 }
end Go.Proofs
namespace Go.Proofs.Ytdbbkodjhmfjfaa
open Go.SL
theorem compare_reads (a b : ByteArray) (H : List Ck) : Reads Try.prog 29 [.string a, .string b] H (.int .i64 (cmpS a b)) := fun w R s =>
  (Any.strings_Compare (ρ := Try.cmp_ren) Try.cmpStr a b w).mono fun e w' ⟨he, hw⟩ => ⟨_, H, he, ⟨rfl, rfl⟩, by rw [hw]; exact s, by rw [hw]; exact Kept.refl w⟩


/-- (*drayage/stock.Stock).Goods$1 -/
theorem cmpG_tells (x y : Gd) : Tells Try.prog 28 [.agg (cellsG x).toArray, .agg (cellsG y).toArray] [] fun r H' => r = .int .i64 (cfG x y) := by
  refine Tells.enter Try.func28 rfl Try.ntmps28 rfl ?_
  intro w0 R
  refine WC.seq ?_
  refine WC.region ?_
  refine WL.h rfl (Hd.boxA rfl fun b2 => ⟨_, rfl, ?_⟩)
  refine WL.h rfl (Hd.boxA rfl fun b3 => ⟨_, rfl, ?_⟩)
  refine WL.y rfl (Yd.assign rfl) ?_
  refine WL.nil ?_
  refine DN.then_normal ?_
  refine WC.seq ?_
  refine WC.region ?_
  refine WL.y rfl (Yd.fieldAddr (k := 0) (by kernel_rfl) rfl) ?_
  refine WL.h rfl (Hd.load1 (by kernel_rfl) rfl (by repeat (first | exact List.mem_cons_self | apply List.mem_cons_of_mem | apply List.mem_append_right)) (by rfl) ⟨_, rfl, ?_⟩)
  refine WL.y rfl (Yd.fieldAddr (k := 0) (by kernel_rfl) rfl) ?_
  refine WL.h rfl (Hd.load1 (by kernel_rfl) rfl (by repeat (first | exact List.mem_cons_self | apply List.mem_cons_of_mem | apply List.mem_append_right)) (by rfl) ⟨_, rfl, ?_⟩)
  refine WL.rf rfl (Ent.func Try.call29 rfl) (compare_reads x.name y.name []) (by repeat (first | exact Sp.here | exact Sp.sn | exact Sp.s0 | exact Fr.here | apply Sp.s2 | apply Sp.sx | apply Fr.fc | apply Fr.al | apply Fr.fa | apply Sp.sc | apply Sp.al | apply Sp.sa)) ?_
  refine WL.y rfl (Yd.assign rfl) ?_
  refine WL.nil ?_
  refine DN.then_normal ?_
  refine WC.ret ?_
  refine DN.ret1 Try.results28 rfl ?_
  rfl

/-- (*drayage/stock.Stock).Holds$1 -/
theorem cmpH_tells (x y : Ho) : Tells Try.prog 32 [.agg (cellsH x).toArray, .agg (cellsH y).toArray] [] fun r H' => r = .int .i64 (cfH x y) := by
  refine Tells.enter Try.func32 rfl Try.ntmps32 rfl ?_
  intro w0 R
  refine WC.seq ?_
  refine WC.region ?_
  refine WL.h rfl (Hd.boxA rfl fun b2 => ⟨_, rfl, ?_⟩)
  refine WL.h rfl (Hd.boxA rfl fun b3 => ⟨_, rfl, ?_⟩)
  refine WL.y rfl (Yd.assign rfl) ?_
  refine WL.nil ?_
  refine DN.then_normal ?_
  refine WC.seq ?_
  refine WC.seq ?_
  refine WC.region ?_
  refine WL.y rfl (Yd.fieldAddr (k := 0) (by kernel_rfl) rfl) ?_
  refine WL.h rfl (Hd.load1 (by kernel_rfl) rfl (by repeat (first | exact List.mem_cons_self | apply List.mem_cons_of_mem | apply List.mem_append_right)) (by rfl) ⟨_, rfl, ?_⟩)
  refine WL.y rfl (Yd.fieldAddr (k := 0) (by kernel_rfl) rfl) ?_
  refine WL.h rfl (Hd.load1 (by kernel_rfl) rfl (by repeat (first | exact List.mem_cons_self | apply List.mem_cons_of_mem | apply List.mem_append_right)) (by rfl) ⟨_, rfl, ?_⟩)
  refine WL.y rfl (Yd.lss rfl rfl) ?_
  refine WL.nil ?_
  refine DN.then_normal ?_
  refine WC.ite rfl (fun h9 => ?_) (fun h9 => ?_)
  · refine WC.seq ?_
    refine WC.region ?_
    refine WL.y rfl (Yd.assign rfl) ?_
    refine WL.nil ?_
    refine DN.then_normal ?_
    refine WC.ret ?_
    refine DN.then_ret ?_
    refine DN.ret1 Try.results32 rfl ?_
    unfold cfH; first | rw [if_pos (by omega)] | rw [if_neg (by omega)]
  · refine WC.skip ?_
    refine DN.then_normal ?_
    refine WC.seq ?_
    refine WC.region ?_
    refine WL.y rfl (Yd.assign rfl) ?_
    refine WL.nil ?_
    refine DN.then_normal ?_
    refine WC.ret ?_
    refine DN.ret1 Try.results32 rfl ?_
    unfold cfH; first | rw [if_pos (by omega)] | rw [if_neg (by omega)]

/-- (*drayage/stock.Stock).Goods -/
theorem goods_tells (p : Nat) (K : List Gd) (L : List Ho) (C : List Ck) (h : StAt 57 p K L C) (hl : K.length ≤ 100000000) : Tells Try.prog 12 [.pointer (some ⟨p, 0, none⟩)] C fun r C' => ∃ S Cs, ToldK Gd.name sLt K S ∧ Own r S.length (S.flatMap cellsG) 32 2 Cs ∧ C' = Cs ++ C := by
  refine Tells.enter Try.func12 rfl Try.ntmps12 rfl ?_
  intro w0 R
  obtain ⟨b1, b2, C1, C2, rfl, hK, hL⟩ := h
  obtain ⟨es, clock, rfl, hes, hborn, hbn⟩ := hK
  have hsz := hes.size
  simp only [kvs, List.length_map] at hsz
  refine WC.seq ?_
  refine WC.region ?_
  refine WL.y rfl (Yd.assign rfl) ?_
  refine WL.nil ?_
  refine DN.then_normal ?_
  refine WC.seq ?_
  refine WC.seq ?_
  refine WC.region ?_
  refine WL.y rfl (Yd.move rfl) ?_
  refine WL.y rfl (Yd.eqlNil Try.underlying26 rfl rfl) ?_
  refine WL.nil ?_
  refine DN.then_normal ?_
  refine WC.no rfl ?_
  refine WC.skip ?_
  refine DN.then_normal ?_
  refine WC.seq ?_
  refine WC.region ?_
  refine WL.y rfl (Yd.assign rfl) ?_
  refine WL.nil ?_
  refine DN.then_normal ?_
  refine WC.seq ?_
  refine WC.seq ?_
  refine WC.region ?_
  refine WL.y rfl (Yd.move rfl) ?_
  refine WL.y rfl (Yd.notNil rfl) ?_
  refine WL.y rfl (Yd.fieldAddr (k := 0) (by kernel_rfl) rfl) ?_
  refine WL.h rfl (Hd.load1 (by kernel_rfl) rfl (by repeat (first | exact List.mem_cons_self | apply List.mem_cons_of_mem | apply List.mem_append_right)) (by rfl) ⟨_, rfl, ?_⟩)
  refine WL.h rfl (Hd.rangeM (KT := 9) (ET := 59) (by kernel_rfl) rfl (by repeat (first | exact List.mem_cons_self | apply List.mem_cons_of_mem | apply List.mem_append_right)) fun i => ⟨_, rfl, ?_⟩)
  refine WL.nil ?_
  refine DN.then_normal ?_
  refine WC.block ?_
  refine WC.loopS (fun z : List MapEntry × List Gd × (Array Nat) × Value × List Ck => Seen es z.1 z.2.2.1 ∧ z.1.map (fun e : MapEntry => (e.key, e.val)) = z.2.1.map (fun r : Gd => (kStr.kv (Gd.name r), encG r)) ∧ Own z.2.2.2.1 z.2.1.length (z.2.1.flatMap cellsG) 32 2 z.2.2.2.2) (fun z : List MapEntry × List Gd × (Array Nat) × Value × List Ck => [(3, z.2.2.2.1)]) (fun z : List MapEntry × List Gd × (Array Nat) × Value × List Ck => ⟨i, .mapIter (some b1) clock z.2.2.1 clock, true⟩ :: (z.2.2.2.2 ++ (row p [.map (some b1), .map (some b2)] 57 :: ([⟨b1, .map es clock, true⟩] ++ C2)))) (fun z : List MapEntry × List Gd × (Array Nat) × Value × List Ck => es.size - z.1.length) (⟨[], [], #[], .slice none 0 0, []⟩) (show Seen es [] #[] ∧ [].map (fun e : MapEntry => (e.key, e.val)) = [].map (fun r : Gd => (kStr.kv (Gd.name r), encG r)) ∧ Own (.slice none 0 0) [].length ([].flatMap cellsG) 32 2 [] from ⟨Seen.start es, rfl, Own.nil _ _⟩) (Sx.put rfl ((by repeat (first | exact Sx.refl | refine Sx.skip rfl ?_)))) (by repeat (first | exact Sp.here | exact Sp.sn | exact Sp.s0 | exact Fr.here | apply Sp.s2 | apply Sp.sx | apply Fr.fc | apply Fr.al | apply Fr.fa | apply Sp.sc | apply Sp.al | apply Sp.sa)) ?_
  rintro ⟨col, B, seen, v, Cs⟩ hI
  replace hI : Seen es col seen ∧ col.map (fun e : MapEntry => (e.key, e.val)) = B.map (fun r : Gd => (kStr.kv (Gd.name r), encG r)) ∧ Own v B.length (B.flatMap cellsG) 32 2 Cs := hI
  obtain ⟨hs, hB, ho⟩ := hI
  change WC _ _ _ _ _ _ ([(3, v)] ++ _) (⟨i, .mapIter (some b1) clock seen clock, true⟩ :: (Cs ++ (row p [.map (some b1), .map (some b2)] 57 :: ([⟨b1, .map es clock, true⟩] ++ C2))))
  have hcl := hs.len hbn
  obtain ⟨vo, vc, rfl, _⟩ := ho.form
  have hBl : B.length = col.length := by simpa using (congrArg List.length hB).symm
  refine WC.seq ?_
  refine WC.region ?_
  refine WL.h rfl (Hd.nextM rfl (by repeat (first | exact Fr.here | apply Fr.fc | apply Fr.al | apply Fr.fa)) (by repeat (first | exact List.mem_cons_self | apply List.mem_cons_of_mem | apply List.mem_append_right)) hborn (fun e he => ⟨_, rfl, ?_⟩) (fun hu => ⟨_, rfl, ?_⟩))
  · obtain ⟨hs2, hee⟩ := hs.next he
    obtain ⟨b, hbL, hek, hev⟩ := entsK_one hes hee
    refine WL.y rfl (Yd.extract rfl rfl) ?_
    refine WL.nil ?_
    refine DN.then_normal ?_
    refine WC.seq ?_
    refine WC.yes rfl ?_
    refine WC.skip ?_
    refine DN.then_normal ?_
    refine WC.block ?_
    refine WC.seq ?_
    refine WC.region ?_
    refine WL.h rfl (Hd.entryM rfl List.mem_cons_self (by repeat (first | exact List.mem_cons_self | apply List.mem_cons_of_mem | apply List.mem_append_right)) hbn hee ⟨_, rfl, ?_⟩)
    refine WL.y rfl (Yd.extract rfl rfl) ?_
    refine WL.renamed (t := 16) (v := .string b.name) rfl (by show e.key = _; rw [hek]; rfl) ?_
    refine WL.y rfl (Yd.extract rfl rfl) ?_
    refine WL.renamed (t := 17) (v := .agg #[.int .i64 b.free, .int .i64 b.gone]) rfl (by show e.val = _; rw [hev]; rfl) ?_
    refine WL.h rfl (Hd.alloc (zs := [.int .i64 0, .int .i64 0]) (by kernel_rfl) fun b5 => ⟨_, rfl, ?_⟩)
    refine WL.y rfl (Yd.assign rfl) ?_
    refine WL.s (Hd.storeAll (n := 2) (by kernel_rfl) rfl rfl (by rfl) (by repeat (first | exact fun _ h => absurd h List.not_mem_nil | refine List.forall_mem_cons.2 ⟨by first | rfl | assumption, ?_⟩)) (by repeat (first | exact Fr.here | apply Fr.fc | apply Fr.al | apply Fr.fa)) (by rfl) ⟨rfl, ?_⟩)
    refine WL.nil ?_
    refine DN.then_normal ?_
    refine WC.region ?_
    refine WL.y rfl (Yd.move rfl) ?_
    refine WL.y rfl (Yd.move rfl) ?_
    refine WL.y rfl (Yd.fieldAddr (k := 0) (by kernel_rfl) rfl) ?_
    refine WL.h rfl (Hd.load1 (by kernel_rfl) rfl (by repeat (first | exact List.mem_cons_self | apply List.mem_cons_of_mem | apply List.mem_append_right)) (by rfl) ⟨_, rfl, ?_⟩)
    refine WL.y rfl (Yd.buildL (pl := [(0, 1), (1, 1)]) (zs := [.string ⟨#[]⟩, .int .i64 0]) (parts := [(0, .tmp 19), (1, .tmp 21)]) (vs := [(0, _), (1, _)]) (cells := [_, _]) (by kernel_rfl) (by kernel_rfl) rfl rfl) ?_
    refine WL.h rfl (Hd.buildA (e := 32) (sz := 2) (zs := [.string ⟨#[]⟩, .int .i64 0]) (by kernel_rfl) (by kernel_rfl) (by kernel_rfl) rfl rfl (by rfl) (by kernel_rfl) fun b23 => ⟨_, rfl, ?_⟩)
    refine WL.h rfl (Hd.appendRow (e := 32) (sz := 2) (bytes := 24) (zs := [.string ⟨#[]⟩, .int .i64 0]) (by kernel_rfl) (by kernel_rfl) rfl (by omega) rfl rfl (ho) (by repeat (first | exact Sp.here | exact Sp.sn | exact Sp.s0 | exact Fr.here | apply Sp.s2 | apply Sp.sx | apply Fr.fc | apply Fr.al | apply Fr.fa | apply Sp.sc | apply Sp.al | apply Sp.sa)) (by repeat (first | exact List.mem_cons_self | apply List.mem_cons_of_mem | apply List.mem_append_right)) (by rfl) (by repeat (first | exact fun _ h => absurd h List.not_mem_nil | refine List.forall_mem_cons.2 ⟨by first | rfl | assumption, ?_⟩)) (by simp only [maxLen]; omega) (by omega) fun v2 Ca ho2 => ⟨_, rfl, ?_⟩)
    refine WL.y rfl (Yd.assign rfl) ?_
    refine WL.nil ?_
    refine DN.block_normal ?_
    have hcl2 := hs2.len hbn
    have hcl3 : (col ++ [e]).length = col.length + 1 := by simp
    exact DN.againS (⟨col ++ [e], B ++ [b], seen.push e.born, v2, Ca⟩) (show Seen es (col ++ [e]) (seen.push e.born) ∧ (col ++ [e]).map (fun e : MapEntry => (e.key, e.val)) = (B ++ [b]).map (fun r : Gd => (kStr.kv (Gd.name r), encG r)) ∧ Own v2 (B ++ [b]).length ((B ++ [b]).flatMap cellsG) 32 2 Ca from ⟨hs2, by rw [List.map_append, List.map_append, hB]; simp [hek, hev], by rw [List.flatMap_append, List.length_append]; simpa [cellsG, cellsH] using ho2⟩) (show es.size - (col ++ [e]).length < es.size - col.length by omega) (Sx.put rfl ((by repeat (first | exact Sx.refl | refine Sx.skip rfl ?_)))) (by repeat (first | exact Sp.here | exact Sp.sn | exact Sp.s0 | exact Fr.here | apply Sp.s2 | apply Sp.sx | apply Fr.fc | apply Fr.al | apply Fr.fa | apply Sp.sc | apply Sp.al | apply Sp.sa))
  · refine WL.y rfl (Yd.extract rfl rfl) ?_
    refine WL.nil ?_
    refine DN.then_normal ?_
    refine WC.seq ?_
    refine WC.no rfl ?_
    refine WC.exit ?_
    refine DN.then_exit ?_
    refine DN.then_exit ?_
    refine DN.block_exit ?_
    refine DN.then_normal ?_
    refine WC.seq ?_
    refine WC.region ?_
    refine WL.y rfl (Yd.move rfl) ?_
    refine WL.c rfl (Ent.func Try.call27 rfl) (sort_tells Try.sortG 2 (by omega) Try.isAgg32 Try.sizeOf32 cellsG cellsG_len cellsG_one cfG swoG 28 Try.call28 cmpG_tells ho (by omega)) (Sp.p (by repeat (first | exact Sp.here | exact Sp.sn | exact Sp.s0 | exact Fr.here | apply Sp.s2 | apply Sp.sx | apply Fr.fc | apply Fr.al | apply Fr.fa | apply Sp.sc | apply Sp.al | apply Sp.sa))) ?_
    rintro q Cz ⟨rfl, S, hS, hpw, ho2⟩
    refine WL.nil ?_
    refine DN.then_normal ?_
    refine WC.seq ?_
    refine WC.region ?_
    refine WL.y rfl (Yd.move rfl) ?_
    refine WL.y rfl (Yd.assign rfl) ?_
    refine WL.nil ?_
    refine DN.then_normal ?_
    refine WC.ret ?_
    refine DN.fit (C := Cz ++ (row p [.map (some b1), .map (some b2)] 57 :: ([⟨b1, .map es clock, true⟩] ++ C2))) (by repeat (first | exact Sp.here | exact Sp.sn | exact Sp.s0 | exact Fr.here | apply Sp.s2 | apply Sp.sx | apply Fr.fc | apply Fr.al | apply Fr.fa | apply Sp.sc | apply Sp.al | apply Sp.sa)) ?_
    refine DN.ret1 Try.results12 rfl ?_
    exact ⟨S, Cz, ⟨hS.trans (entsK_all injG hes (hs.all hbn hu) hB), hpw.imp fun {x y} hxy => by rw [← hxy]; exact (ltG y x).symm⟩, by rw [hS.length_eq]; rwa [hS.length_eq] at ho2, rfl⟩

/-- (*drayage/stock.Stock).Holds -/
theorem holds_tells (p : Nat) (K : List Gd) (L : List Ho) (C : List Ck) (h : StAt 57 p K L C) (hl : L.length ≤ 100000000) : Tells Try.prog 18 [.pointer (some ⟨p, 0, none⟩)] C fun r C' => ∃ S Cs, ToldK Ho.o oLt L S ∧ Own r S.length (S.flatMap cellsH) 50 3 Cs ∧ C' = Cs ++ C := by
  refine Tells.enter Try.func18 rfl Try.ntmps18 rfl ?_
  intro w0 R
  obtain ⟨b1, b2, C1, C2, rfl, hK, hL⟩ := h
  obtain ⟨es, clock, rfl, hes, hborn, hbn⟩ := hL
  have hsz := hes.size
  simp only [kvs, List.length_map] at hsz
  refine WC.seq ?_
  refine WC.region ?_
  refine WL.y rfl (Yd.assign rfl) ?_
  refine WL.nil ?_
  refine DN.then_normal ?_
  refine WC.seq ?_
  refine WC.seq ?_
  refine WC.region ?_
  refine WL.y rfl (Yd.move rfl) ?_
  refine WL.y rfl (Yd.eqlNil Try.underlying26 rfl rfl) ?_
  refine WL.nil ?_
  refine DN.then_normal ?_
  refine WC.no rfl ?_
  refine WC.skip ?_
  refine DN.then_normal ?_
  refine WC.seq ?_
  refine WC.region ?_
  refine WL.y rfl (Yd.assign rfl) ?_
  refine WL.nil ?_
  refine DN.then_normal ?_
  refine WC.seq ?_
  refine WC.seq ?_
  refine WC.region ?_
  refine WL.y rfl (Yd.move rfl) ?_
  refine WL.y rfl (Yd.notNil rfl) ?_
  refine WL.y rfl (Yd.fieldAddr (k := 1) (by kernel_rfl) rfl) ?_
  refine WL.h rfl (Hd.load1 (by kernel_rfl) rfl (by repeat (first | exact List.mem_cons_self | apply List.mem_cons_of_mem | apply List.mem_append_right)) (by rfl) ⟨_, rfl, ?_⟩)
  refine WL.h rfl (Hd.rangeM (KT := 23) (ET := 50) (by kernel_rfl) rfl (by repeat (first | exact List.mem_cons_self | apply List.mem_cons_of_mem | apply List.mem_append_right)) fun i => ⟨_, rfl, ?_⟩)
  refine WL.nil ?_
  refine DN.then_normal ?_
  refine WC.block ?_
  refine WC.loopS (fun z : List MapEntry × List Ho × (Array Nat) × Value × List Ck => Seen es z.1 z.2.2.1 ∧ z.1.map (fun e : MapEntry => (e.key, e.val)) = z.2.1.map (fun r : Ho => (kU32.kv (Ho.o r), encH r)) ∧ Own z.2.2.2.1 z.2.1.length (z.2.1.flatMap cellsH) 50 3 z.2.2.2.2) (fun z : List MapEntry × List Ho × (Array Nat) × Value × List Ck => [(3, z.2.2.2.1)]) (fun z : List MapEntry × List Ho × (Array Nat) × Value × List Ck => ⟨i, .mapIter (some b2) clock z.2.2.1 clock, true⟩ :: (z.2.2.2.2 ++ (row p [.map (some b1), .map (some b2)] 57 :: (C1 ++ [⟨b2, .map es clock, true⟩])))) (fun z : List MapEntry × List Ho × (Array Nat) × Value × List Ck => es.size - z.1.length) (⟨[], [], #[], .slice none 0 0, []⟩) (show Seen es [] #[] ∧ [].map (fun e : MapEntry => (e.key, e.val)) = [].map (fun r : Ho => (kU32.kv (Ho.o r), encH r)) ∧ Own (.slice none 0 0) [].length ([].flatMap cellsH) 50 3 [] from ⟨Seen.start es, rfl, Own.nil _ _⟩) (Sx.put rfl ((by repeat (first | exact Sx.refl | refine Sx.skip rfl ?_)))) (by repeat (first | exact Sp.here | exact Sp.sn | exact Sp.s0 | exact Fr.here | apply Sp.s2 | apply Sp.sx | apply Fr.fc | apply Fr.al | apply Fr.fa | apply Sp.sc | apply Sp.al | apply Sp.sa)) ?_
  rintro ⟨col, B, seen, v, Cs⟩ hI
  replace hI : Seen es col seen ∧ col.map (fun e : MapEntry => (e.key, e.val)) = B.map (fun r : Ho => (kU32.kv (Ho.o r), encH r)) ∧ Own v B.length (B.flatMap cellsH) 50 3 Cs := hI
  obtain ⟨hs, hB, ho⟩ := hI
  change WC _ _ _ _ _ _ ([(3, v)] ++ _) (⟨i, .mapIter (some b2) clock seen clock, true⟩ :: (Cs ++ (row p [.map (some b1), .map (some b2)] 57 :: (C1 ++ [⟨b2, .map es clock, true⟩]))))
  have hcl := hs.len hbn
  obtain ⟨vo, vc, rfl, _⟩ := ho.form
  have hBl : B.length = col.length := by simpa using (congrArg List.length hB).symm
  refine WC.seq ?_
  refine WC.region ?_
  refine WL.h rfl (Hd.nextM rfl (by repeat (first | exact Fr.here | apply Fr.fc | apply Fr.al | apply Fr.fa)) (by repeat (first | exact List.mem_cons_self | apply List.mem_cons_of_mem | apply List.mem_append_right)) hborn (fun e he => ⟨_, rfl, ?_⟩) (fun hu => ⟨_, rfl, ?_⟩))
  · obtain ⟨hs2, hee⟩ := hs.next he
    obtain ⟨b, hbL, hek, hev⟩ := entsK_one hes hee
    refine WL.y rfl (Yd.extract rfl rfl) ?_
    refine WL.nil ?_
    refine DN.then_normal ?_
    refine WC.seq ?_
    refine WC.yes rfl ?_
    refine WC.skip ?_
    refine DN.then_normal ?_
    refine WC.block ?_
    refine WC.seq ?_
    refine WC.region ?_
    refine WL.h rfl (Hd.entryM rfl List.mem_cons_self (by repeat (first | exact List.mem_cons_self | apply List.mem_cons_of_mem | apply List.mem_append_right)) hbn hee ⟨_, rfl, ?_⟩)
    refine WL.y rfl (Yd.extract rfl rfl) ?_
    refine WL.renamed (t := 16) (v := .agg (cellsH b).toArray) rfl (by show e.val = _; rw [hev]; rfl) ?_
    refine WL.h rfl (Hd.alloc (zs := [.int .u32 0, .string ⟨#[]⟩, .int .i64 0]) (by kernel_rfl) fun b5 => ⟨_, rfl, ?_⟩)
    refine WL.s (Hd.storeAll (n := 3) (by kernel_rfl) rfl rfl (by rfl) (by repeat (first | exact fun _ h => absurd h List.not_mem_nil | refine List.forall_mem_cons.2 ⟨by first | rfl | assumption, ?_⟩)) (by repeat (first | exact Fr.here | apply Fr.fc | apply Fr.al | apply Fr.fa)) (by rfl) ⟨rfl, ?_⟩)
    refine WL.nil ?_
    refine DN.then_normal ?_
    refine WC.region ?_
    refine WL.y rfl (Yd.move rfl) ?_
    refine WL.h rfl (Hd.loadAll (n := 3) (by kernel_rfl) rfl (by repeat (first | exact List.mem_cons_self | apply List.mem_cons_of_mem | apply List.mem_append_right)) (by rfl) ⟨_, rfl, ?_⟩)
    refine WL.h rfl (Hd.buildA (e := 50) (sz := 3) (zs := [.int .u32 0, .string ⟨#[]⟩, .int .i64 0]) (by kernel_rfl) (by kernel_rfl) (by kernel_rfl) rfl rfl (by rfl) (by kernel_rfl) fun b19 => ⟨_, rfl, ?_⟩)
    refine WL.h rfl (Hd.appendRow (e := 50) (sz := 3) (bytes := 32) (zs := [.int .u32 0, .string ⟨#[]⟩, .int .i64 0]) (by kernel_rfl) (by kernel_rfl) rfl (by omega) rfl rfl (ho) (by repeat (first | exact Sp.here | exact Sp.sn | exact Sp.s0 | exact Fr.here | apply Sp.s2 | apply Sp.sx | apply Fr.fc | apply Fr.al | apply Fr.fa | apply Sp.sc | apply Sp.al | apply Sp.sa)) (by repeat (first | exact List.mem_cons_self | apply List.mem_cons_of_mem | apply List.mem_append_right)) (by rfl) (by repeat (first | exact fun _ h => absurd h List.not_mem_nil | refine List.forall_mem_cons.2 ⟨by first | rfl | assumption, ?_⟩)) (by simp only [maxLen]; omega) (by omega) fun v2 Ca ho2 => ⟨_, rfl, ?_⟩)
    refine WL.y rfl (Yd.assign rfl) ?_
    refine WL.nil ?_
    refine DN.block_normal ?_
    have hcl2 := hs2.len hbn
    have hcl3 : (col ++ [e]).length = col.length + 1 := by simp
    exact DN.againS (⟨col ++ [e], B ++ [b], seen.push e.born, v2, Ca⟩) (show Seen es (col ++ [e]) (seen.push e.born) ∧ (col ++ [e]).map (fun e : MapEntry => (e.key, e.val)) = (B ++ [b]).map (fun r : Ho => (kU32.kv (Ho.o r), encH r)) ∧ Own v2 (B ++ [b]).length ((B ++ [b]).flatMap cellsH) 50 3 Ca from ⟨hs2, by rw [List.map_append, List.map_append, hB]; simp [hek, hev], by rw [List.flatMap_append, List.length_append]; simpa [cellsG, cellsH] using ho2⟩) (show es.size - (col ++ [e]).length < es.size - col.length by omega) (Sx.put rfl ((by repeat (first | exact Sx.refl | refine Sx.skip rfl ?_)))) (by repeat (first | exact Sp.here | exact Sp.sn | exact Sp.s0 | exact Fr.here | apply Sp.s2 | apply Sp.sx | apply Fr.fc | apply Fr.al | apply Fr.fa | apply Sp.sc | apply Sp.al | apply Sp.sa))
  · refine WL.y rfl (Yd.extract rfl rfl) ?_
    refine WL.nil ?_
    refine DN.then_normal ?_
    refine WC.seq ?_
    refine WC.no rfl ?_
    refine WC.exit ?_
    refine DN.then_exit ?_
    refine DN.then_exit ?_
    refine DN.block_exit ?_
    refine DN.then_normal ?_
    refine WC.seq ?_
    refine WC.region ?_
    refine WL.y rfl (Yd.move rfl) ?_
    refine WL.c rfl (Ent.func Try.call31 rfl) (sort_tells Try.sortH 3 (by omega) Try.isAgg50 Try.sizeOf50 cellsH cellsH_len cellsH_one cfH swoH 32 Try.call32 cmpH_tells ho (by omega)) (Sp.p (by repeat (first | exact Sp.here | exact Sp.sn | exact Sp.s0 | exact Fr.here | apply Sp.s2 | apply Sp.sx | apply Fr.fc | apply Fr.al | apply Fr.fa | apply Sp.sc | apply Sp.al | apply Sp.sa))) ?_
    rintro q Cz ⟨rfl, S, hS, hpw, ho2⟩
    refine WL.nil ?_
    refine DN.then_normal ?_
    refine WC.seq ?_
    refine WC.region ?_
    refine WL.y rfl (Yd.move rfl) ?_
    refine WL.y rfl (Yd.assign rfl) ?_
    refine WL.nil ?_
    refine DN.then_normal ?_
    refine WC.ret ?_
    refine DN.fit (C := Cz ++ (row p [.map (some b1), .map (some b2)] 57 :: (C1 ++ [⟨b2, .map es clock, true⟩]))) (by repeat (first | exact Sp.here | exact Sp.sn | exact Sp.s0 | exact Fr.here | apply Sp.s2 | apply Sp.sx | apply Fr.fc | apply Fr.al | apply Fr.fa | apply Sp.sc | apply Sp.al | apply Sp.sa)) ?_
    refine DN.ret1 Try.results18 rfl ?_
    exact ⟨S, Cz, ⟨hS.trans (entsK_all injH hes (hs.all hbn hu) hB), hpw.imp fun {x y} hxy => by rw [← hxy]; exact (ltH y x).symm⟩, by rw [hS.length_eq]; rwa [hS.length_eq] at ho2, rfl⟩

end Go.Proofs.Ytdbbkodjhmfjfaa
