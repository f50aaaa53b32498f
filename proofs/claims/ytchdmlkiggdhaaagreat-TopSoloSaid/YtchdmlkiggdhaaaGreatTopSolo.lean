/-
  TopSolo: the Go function returns true for every input and leaves its arguments as they read; no condition.
-/
import Derived.Test.YtchdmlkiggdhaaaGreatTopSoloB1
set_option linter.unusedVariables false
set_option linter.unusedSimpArgs false
namespace Go.Proofs.YtchdmlkiggdhaaaGreat.topSolo
open Go.ChangeShapes Go.WideShapes Go.ChangeAt Go.RowKit Go.SL
open Go.ChangeMaps (open_string shut_string)
theorem own : ownKnob Tryz.prog.godebug = none := by kernel_rfl
theorem laidOut : laidOutB Tryz.prog = true := by kernel_rfl
set_option maxRecDepth 100000 in
theorem lifted (os : Os) (started : os.Started) (H : Type) (enc : TypeId × Value → H) :
    ReturnsInHanded {} Tryz.checked os 4 .any (Rows.topSoloSpec.pre6 enc Tryz.prog Tryz.f4 Rows.topSoloRow.domain false) (Rows.topSoloSpec.post enc Tryz.prog Tryz.f4 false true false false) := by
  refine returnsInHanded_of_change (C := Tryz.checked) own started (by kernel_rfl) Tryz.func4
      (ChangeSpec.witness6 (enc := enc) (C := Tryz.checked) false ⟨#[], #[.slice none 0 0], []⟩ 8 (by kernel_rfl) (by kernel_rfl) (by kernel_rfl) (by kernel_rfl)) ?_
  intro W base args ds gs before He hW abc _
  have Db : ∀ (j : Nat) t v, Tryz.f4.params[j]? = some t → args[j]? = some v → Value.okWide Tryz.prog W .any base t v := He
  have Mw := hW
  obtain ⟨p, q, Gn, hV, rfl, Tx, nu⟩ := hW
  have hA : DataW.TrodAll enc Tryz.prog W 0 (fun _ => true) true Tryz.f4.params.toList args.toList ds p := Gn
  rw [Tryz.params4] at hA Db
  obtain ⟨v0, vs0, d0, ZW, p0, q0, aa7, rfl, rfl, h0, r0⟩ := trodAll_cons hA
  obtain ⟨rfl, rfl, rfl⟩ := trodAll_nil r0
  obtain rfl : args = #[v0] := by cases args; simp_all
  obtain ⟨rfl, rfl⟩ := trodVars_none hV
  have k0 := h0
  have Oi : ∀ x ∈ p0, x.block < W.heap.size := by obtain ⟨m, hm⟩ := k0; exact DataW.trod_lt m _ _ _ hm
  obtain ⟨o0, ad1, nU, rfl⟩ := okWide_slice Tryz.underlying22 (Db 0 22 v0 rfl rfl)
  obtain ⟨Oh, H0, EC, tf, Oj, MV⟩ := VI (E := 27) (by kernel_rfl) (by kernel_rfl) (by kernel_rfl) h0
  subst tf
  clear Gn He
  refine (Rf (H := H0) (ad0 _ Oh H0 EC (by simp only [maxLen] at Oj; omega)) MV).mono fun e Yf ⟨he, F3⟩ => ?_
  subst he
  exact ⟨_, rfl, _, _, _, [], _, [], Mw, trodAll_mk1 (shut_bool Tryz.underlying4 _), (trodAll_cons_mk (Below.trod laidOut (by kernel_rfl) (eR (by kernel_rfl)) k0 F3 Oi) trodAll_mk0), rfl, F3.frame _, fun h => by cases h⟩
theorem OH : Rows.topSoloRow.holds Tryz.pinned (OpenSpec.ofChange Rows.topSoloSpec) :=
  OpenClaim.holds_of_wide 4 Tryz.f4 rfl rfl rfl rfl rfl rfl rfl ⟨rfl, rfl, rfl, rfl, rfl⟩ rfl rfl rfl rfl rfl (by kernel_rfl) Tryz.func4 (by kernel_rfl)
    (eR (by kernel_rfl)) (by unfold Func.isWrapper; first | (rw [dx (by decide +kernel)]; kernel_rfl) | (rw [dp (by decide +kernel)]; exact ⟨rfl, rfl⟩))
    (fun os started H enc _ => lifted os started H enc)
theorem proved : Rows.TopSoloSaid := OH
end Go.Proofs.YtchdmlkiggdhaaaGreat.topSolo
