/-
  CrewServes: the Go function returns true for every input and leaves its arguments as they read; no condition.
-/
import Derived.Test.YtkamlondepceiaaGreatCrewServesB6
set_option linter.unusedVariables false
set_option linter.unusedSimpArgs false
namespace Go.Proofs.YtkamlondepceiaaGreat.crewServes
open Go.ChangeShapes Go.WideShapes Go.ChangeAt Go.RowKit Go.SL
open Go.ChangeMaps (open_string shut_string)
theorem own : ownKnob Tryz.prog.godebug = none := by kernel_rfl
theorem laidOut : laidOutB Tryz.prog = true := by kernel_rfl
set_option maxRecDepth 100000 in
theorem lifted (os : Os) (started : os.Started) (H : Type) (enc : TypeId × Value → H) :
    ReturnsInHanded {} Tryz.checked os 8 .any (Rows.crewServesSpec.pre6 enc Tryz.prog Tryz.f8 Rows.crewServesRow.domain false) (Rows.crewServesSpec.post enc Tryz.prog Tryz.f8 false true false false) := by
  refine returnsInHanded_of_change (C := Tryz.checked) own started (by kernel_rfl) Tryz.func8
      (ChangeSpec.witness6 (enc := enc) (C := Tryz.checked) false ⟨#[], #[.agg #[.slice none 0 0, .slice none 0 0, .slice none 0 0], .slice none 0 0], []⟩ 8 (by kernel_rfl) (by kernel_rfl) (by kernel_rfl) (by kernel_rfl)) ?_
  intro W base args ds gs before hval0 hW hcnd _
  have hval : ∀ (j : Nat) t v, Tryz.f8.params[j]? = some t → args[j]? = some v → Value.okWide Tryz.prog W .any base t v := hval0
  have hW' := hW
  obtain ⟨p, q, hA0, hV, rfl, hfz, hnd⟩ := hW
  have hA : DataW.TrodAll enc Tryz.prog W 0 (fun _ => true) true Tryz.f8.params.toList args.toList ds p := hA0
  rw [Tryz.params8] at hA hval
  obtain ⟨v0, vs0, d0, ds0, p0, q0, hargs, rfl, rfl, h0, r0⟩ := trodAll_cons hA
  obtain ⟨v1, vs1, d1, ds1, p1, q1, rfl, rfl, rfl, h1, r1⟩ := trodAll_cons r0
  obtain ⟨rfl, rfl, rfl⟩ := trodAll_nil r1
  obtain rfl : args = #[v0, v1] := by cases args; simp_all
  obtain ⟨rfl, rfl⟩ := trodVars_none hV
  have k0 := h0
  have lt0 : ∀ x ∈ p0, x.block < W.heap.size := by obtain ⟨m, hm⟩ := k0; exact DataW.trod_lt m _ _ _ hm
  obtain ⟨cs0, rfl, _⟩ := okWide_struct Tryz.underlying47 (hval 0 47 v0 rfl rfl)
  obtain ⟨u1, u2, u3, gs0, us0, rs0, H0, ecs0, hgg0, hk1, hk2, hk3, hm1, hm2, hm3, here0⟩ := open_first (E2 := 3) Tryz.underlying47 rfl rfl rfl rfl rfl rfl rfl (by kernel_rfl) (by kernel_rfl) (by kernel_rfl) (by kernel_rfl) (by kernel_rfl) Tryz.underlying73 (by kernel_rfl) (by kernel_rfl) (by kernel_rfl) Tryz.underlying71 (by kernel_rfl) (by kernel_rfl) (by kernel_rfl) (by kernel_rfl) (by kernel_rfl) rfl h0
  obtain rfl : cs0 = #[u1, u2, u3] := by injection ecs0
  have k1 := h1
  have lt1 : ∀ x ∈ p1, x.block < W.heap.size := by obtain ⟨m, hm⟩ := k1; exact DataW.trod_lt m _ _ _ hm
  obtain ⟨o1, len1, cap1, rfl⟩ := okWide_slice Tryz.underlying39 (hval 1 39 v1 rfl rfl)
  obtain ⟨xs1, ls1, H1, hr1, hl1, hn1, mb1, here1, he1⟩ := open_asks (E := 54) (by kernel_rfl) Tryz.underlying54 (by kernel_rfl) (by kernel_rfl) h1
  subst hn1
  clear hA0 hval0
  refine (calls_of_tells (H := (H0 ++ H1)) (law_CrewServes _ _ _ gs0 us0 rs0 hgg0 _ ls1 xs1 (H0 ++ H1) (hk1.mono fun c hc => List.mem_append_left _ hc) (hk2.mono fun c hc => List.mem_append_left _ hc) (hk3.mono fun c hc => List.mem_append_left _ hc) (by simp only [maxLen] at hm1; omega) (by simp only [maxLen] at hm2; omega) (by simp only [maxLen] at hm3; omega) ⟨hr1.mono fun c hc => List.mem_append_right _ hc, hl1, fun i hi => AsE.mono _ _ _ _ (he1 i hi) fun c hc => List.mem_append_right _ hc⟩ (by simp only [maxLen] at mb1; omega)) (here0.append here1)).mono fun e W' ⟨he, bel⟩ => ?_
  subst he
  exact ⟨_, rfl, _, _, _, [], _, [], hW', trodAll_mk1 (shut_bool Tryz.underlying4 _), (trodAll_cons_mk (Below.trod laidOut (by kernel_rfl) (of_decide_eq_true (by kernel_rfl)) k0 bel lt0) (trodAll_cons_mk (Below.trod laidOut (by kernel_rfl) (of_decide_eq_true (by kernel_rfl)) k1 bel lt1) trodAll_mk0)), rfl, bel.frame _, fun h => by cases h⟩
theorem over : Rows.crewServesRow.holds Tryz.pinned (OpenSpec.ofChange Rows.crewServesSpec) :=
  OpenClaim.holds_of_wide 8 Tryz.f8 rfl rfl rfl rfl rfl rfl rfl ⟨rfl, rfl, rfl, rfl, rfl⟩ rfl rfl rfl rfl rfl (by kernel_rfl) Tryz.func8 (by kernel_rfl)
    (of_decide_eq_true (by kernel_rfl)) (by unfold Func.isWrapper; first | (rw [if_pos (by decide +kernel)]; kernel_rfl) | (rw [if_neg (by decide +kernel)]; exact ⟨rfl, rfl⟩))
    (fun os started H enc _ => lifted os started H enc)
theorem proved : Rows.CrewServesSaid := over
end Go.Proofs.YtkamlondepceiaaGreat.crewServes
