/-
  The walks of the document's frames (drayageref03), continued, and of more of the lists' functions.
-/
import Derived.Test.YtfacofbobmlmiaaRef3
set_option linter.unusedVariables false
set_option linter.unusedSimpArgs false
set_option maxHeartbeats 2000000
namespace Go.Proofs.Ytfacofbobmlmiaa
open Go.SL Go.Sum
def gd (b : List B8') (i : Nat) : B8' := b.getD i 0#8
theorem bc_gd {b : List B8'} {i : Nat} (h : i < b.length) : (bc b)[i]? = some (.int .u8 (gd b i).toNat) := bc_getD h
theorem numAt_gd (b : List B8') (k : Nat) : numAt b k = (gd b (k + 2)).toNat * 256 + (gd b (k + 3)).toNat := rfl
theorem putErr_no (l : List B8') (h : l.length ≤ 2000) : ¬ (putErr l ≠ 0) := by simp [putErr, h]
theorem putErr_yes (l : List B8') (h : ¬ l.length ≤ 2000) : putErr l ≠ 0 := by rw [putErr, if_neg h]; decide


/-- drayage/drayageref03.Get -/
theorem rget_tells (v : Value) (b : List B8') (at_ : Int) (H : List Ck) (hv : Bs v b H) (hl : b.length ≤ 1000000) (ha : at_ ≤ 9223372036854775807) : Tells Try.prog 35 [v, .int .i64 at_] H fun r H' => ∃ u C, r = .tuple #[u, .int .i64 (getOf b at_).2.1, .int .i64 (getOf b at_).2.2] ∧ Ob 5 u (getOf b at_).1 C ∧ H' = C ++ H := by
  refine Tells.enter Try.func35 rfl Try.ntmps35 rfl ?_
  intro w0 R
  obtain ⟨vo, vc, rfl, hvc⟩ := hv.form
  refine WC.seq ?_
  refine WC.region ?_
  refine WL.y rfl (Yd.assign rfl) ?_
  refine WL.y rfl (Yd.assign rfl) ?_
  refine WL.y rfl (Yd.assign rfl) ?_
  refine WL.nil ?_
  refine DN.then_normal ?_
  refine WC.seq ?_
  refine WC.seq ?_
  refine WC.region ?_
  refine WL.y rfl (Yd.move rfl) ?_
  refine WL.y rfl (Yd.lss rfl rfl) ?_
  refine WL.y rfl (Yd.move rfl) ?_
  refine WL.partP (t := 14) rfl (fun hg14 => ?_) (fun hg14 => ?_)
  · refine WL.gn (dj := 14) rfl rfl rfl rfl ?_
    refine WL.gn (dj := 14) rfl rfl rfl rfl ?_
    refine WL.gn (dj := 14) rfl rfl rfl rfl ?_
    refine WL.gn (dj := 14) rfl rfl rfl rfl ?_
    refine WL.y rfl (Yd.pickT rfl rfl) ?_
    refine WL.nil ?_
    refine DN.then_normal ?_
    refine WC.yes rfl ?_
    refine WC.seq ?_
    refine WC.region ?_
    refine WL.y rfl (Yd.assign rfl) ?_
    refine WL.y rfl (Yd.assign rfl) ?_
    refine WL.y rfl (Yd.assign rfl) ?_
    refine WL.nil ?_
    refine DN.then_normal ?_
    refine WC.ret ?_
    refine DN.then_ret ?_
    refine DN.ret3 Try.results35 rfl rfl rfl ?_
    have hg : getOf b at_ = ([], 0, 2) := by rw [getOf, if_pos (by omega)]
    rw [hg]
    exact ⟨_, [], rfl, Ob.nil _, rfl⟩
  · refine WL.gy (dj := 14) rfl rfl rfl (Yd.move rfl) ?_
    refine WL.gy (dj := 14) rfl rfl rfl (Yd.move rfl) ?_
    refine WL.gy (dj := 14) rfl rfl rfl (Yd.len (e := 5) (by kernel_rfl) rfl) ?_
    refine WL.gy (dj := 14) rfl rfl rfl (Yd.gtr rfl rfl) ?_
    refine WL.y rfl (Yd.pickF rfl rfl) ?_
    refine WL.nil ?_
    refine DN.then_normal ?_
    refine WC.ite rfl (fun h19 => ?_) (fun h19 => ?_)
    · refine WC.seq ?_
      refine WC.region ?_
      refine WL.y rfl (Yd.assign rfl) ?_
      refine WL.y rfl (Yd.assign rfl) ?_
      refine WL.y rfl (Yd.assign rfl) ?_
      refine WL.nil ?_
      refine DN.then_normal ?_
      refine WC.ret ?_
      refine DN.then_ret ?_
      refine DN.ret3 Try.results35 rfl rfl rfl ?_
      have hg : getOf b at_ = ([], 0, 2) := by rw [getOf, if_pos (by omega)]
      rw [hg]
      exact ⟨_, [], rfl, Ob.nil _, rfl⟩
    · obtain ⟨k, rfl⟩ : ∃ k : Nat, at_ = k := ⟨at_.toNat, by omega⟩
      have hkl : k ≤ b.length := by omega
      refine WC.skip ?_
      refine DN.then_normal ?_
      refine WC.seq ?_
      refine WC.seq ?_
      refine WC.region ?_
      refine WL.y rfl (Yd.move rfl) ?_
      refine WL.y rfl (Yd.move rfl) ?_
      refine WL.y rfl (Yd.len (e := 5) (by kernel_rfl) rfl) ?_
      refine WL.y rfl (Yd.eql rfl rfl) ?_
      refine WL.y rfl (Yd.move rfl) ?_
      refine WL.partP (t := 24) rfl (fun hg24 => ?_) (fun hg24 => ?_)
      · refine WL.gn (dj := 24) rfl rfl rfl rfl ?_
        refine WL.gn (dj := 24) rfl rfl rfl rfl ?_
        refine WL.gn (dj := 24) rfl rfl rfl rfl ?_
        refine WL.gn (dj := 24) rfl rfl rfl rfl ?_
        refine WL.gn (dj := 24) rfl rfl rfl rfl ?_
        refine WL.y rfl (Yd.pickT rfl rfl) ?_
        refine WL.nil ?_
        refine DN.then_normal ?_
        refine WC.yes rfl ?_
        refine WC.seq ?_
        refine WC.region ?_
        refine WL.y rfl (Yd.assign rfl) ?_
        refine WL.y rfl (Yd.assign rfl) ?_
        refine WL.y rfl (Yd.assign rfl) ?_
        refine WL.nil ?_
        refine DN.then_normal ?_
        refine WC.ret ?_
        refine DN.then_ret ?_
        refine DN.ret3 Try.results35 rfl rfl rfl ?_
        have hg : getOf b k = ([], 0, 30) := by rw [getOf, if_neg (by omega), if_pos (.inl (by omega))]
        rw [hg]
        exact ⟨_, [], rfl, Ob.nil _, rfl⟩
      · refine WL.gy (dj := 24) rfl rfl rfl (Yd.move rfl) ?_
        refine WL.gy (dj := 24) rfl rfl rfl (Yd.move rfl) ?_
        refine WL.elemN (e := 5) (dj := 24) (by kernel_rfl) (by kernel_rfl) (by kernel_rfl) rfl rfl (rfl) (hv) (bc_get (i := k) (by omega)) (by omega) rfl rfl rfl rfl rfl ?_
        intro _
        refine WL.gy (dj := 24) rfl rfl rfl (Yd.eql8 _ (0#8) rfl rfl rfl rfl) ?_
        refine WL.y rfl (Yd.pickF rfl rfl) ?_
        refine WL.nil ?_
        refine DN.then_normal ?_
        refine WC.ite rfl (fun h30 => ?_) (fun h30 => ?_)
        · refine WC.seq ?_
          refine WC.region ?_
          refine WL.y rfl (Yd.assign rfl) ?_
          refine WL.y rfl (Yd.assign rfl) ?_
          refine WL.y rfl (Yd.assign rfl) ?_
          refine WL.nil ?_
          refine DN.then_normal ?_
          refine WC.ret ?_
          refine DN.then_ret ?_
          refine DN.ret3 Try.results35 rfl rfl rfl ?_
          have hg : getOf b k = ([], 0, 30) := by
            have hkb : k < b.length := by omega
            rw [getOf, if_neg (by omega), if_pos (.inr (by simpa [List.getD, hkb] using h30))]
          rw [hg]
          exact ⟨_, [], rfl, Ob.nil _, rfl⟩
        · refine WC.skip ?_
          refine DN.then_normal ?_
          refine WC.seq ?_
          refine WC.region ?_
          have hkb : k < b.length := by omega
          refine WL.y rfl (Yd.move rfl) ?_
          refine WL.y rfl (Yd.len (e := 5) (by kernel_rfl) rfl) ?_
          refine WL.y rfl (Yd.move rfl) ?_
          refine WL.y rfl (Yd.sub rfl rfl (by omega) (by omega)) ?_
          refine WL.y rfl (Yd.assign rfl) ?_
          refine WL.nil ?_
          refine DN.then_normal ?_
          refine WC.seq ?_
          refine WC.seq ?_
          refine WC.region ?_
          refine WL.y rfl (Yd.move rfl) ?_
          refine WL.y rfl (Yd.lss rfl rfl) ?_
          refine WL.nil ?_
          refine DN.then_normal ?_
          refine WC.ite rfl (fun h36 => ?_) (fun h36 => ?_)
          · refine WC.seq ?_
            refine WC.region ?_
            refine WL.y rfl (Yd.assign rfl) ?_
            refine WL.y rfl (Yd.assign rfl) ?_
            refine WL.y rfl (Yd.assign rfl) ?_
            refine WL.nil ?_
            refine DN.then_normal ?_
            refine WC.ret ?_
            refine DN.then_ret ?_
            refine DN.ret3 Try.results35 rfl rfl rfl ?_
            have hg := getOf_bad' hkb h30 (by
              rw [bodyAt_num, if_neg]
              rintro ⟨c1, c2, c3⟩
              omega)
            rw [hg]
            exact ⟨_, [], rfl, Ob.nil _, rfl⟩
          · have hk8 : k + 8 ≤ b.length := by omega
            obtain ⟨b0, o0, cs0, T0, fr0, ex0, e0, hm0, hg0⟩ := hv.at (by intro e; have h9 := congrArg List.length e; rw [bc_length] at h9; simp only [List.length_nil] at h9; omega)
            subst e0
            have hx2 := (gd b (k + 2)).isLt
            have hx3 := (gd b (k + 3)).isLt
            have hL2 := hg0 (k + 2) _ (bc_gd (by omega))
            have hL3 := hg0 (k + 3) _ (bc_gd (by omega))
            obtain ⟨n, hn⟩ : ∃ n, n = numAt b k := ⟨_, rfl⟩
            have hn' := hn
            rw [numAt_gd] at hn'
            refine WC.skip ?_
            refine DN.then_normal ?_
            refine WC.seq ?_
            refine WC.draw 15 (by kernel_rfl) rfl ?_
            refine WA.y (i := 0) (NoPanic.then (NoPanic.body)) rfl (by kernel_rfl) (by kernel_rfl) (by kernel_rfl) rfl (Yd.move rfl) ?_
            refine WA.y (i := 1) (NoPanic.then (NoPanic.body)) rfl (by kernel_rfl) (by kernel_rfl) (by kernel_rfl) rfl (Yd.move rfl) ?_
            refine WA.y (i := 2) (NoPanic.then (NoPanic.body)) rfl (by kernel_rfl) (by kernel_rfl) (by kernel_rfl) rfl (Yd.add rfl rfl (by omega) (by omega)) ?_
            refine WA.y (i := 3) (NoPanic.then (NoPanic.body)) rfl (by kernel_rfl) (by kernel_rfl) (by kernel_rfl) rfl (Yd.indexAddr (e := 5) (s := 1) (by kernel_rfl) (by kernel_rfl) rfl rfl (by omega) (by omega)) ?_
            refine WA.y (i := 7) (NoPanic.then (NoPanic.body)) rfl (by kernel_rfl) (by kernel_rfl) (by kernel_rfl) rfl (Yd.move rfl) ?_
            refine WA.y (i := 8) (NoPanic.then (NoPanic.body)) rfl (by kernel_rfl) (by kernel_rfl) (by kernel_rfl) rfl (Yd.move rfl) ?_
            refine WA.y (i := 9) (NoPanic.then (NoPanic.body)) rfl (by kernel_rfl) (by kernel_rfl) (by kernel_rfl) rfl (Yd.add rfl rfl (by omega) (by omega)) ?_
            refine WA.y (i := 10) (NoPanic.then (NoPanic.body)) rfl (by kernel_rfl) (by kernel_rfl) (by kernel_rfl) rfl (Yd.indexAddr (e := 5) (s := 1) (by kernel_rfl) (by kernel_rfl) rfl rfl (by omega) (by omega)) ?_
            refine WA.two (i := 4) (j := 11) (by kernel_rfl) ?_ ?_
            · refine WO.h rfl Wt.none rfl (Hd.load1 (v := .int .u8 (gd b (k + 2)).toNat) (b := b0) (cs := cs0.toList) (by kernel_rfl) rfl (by simpa using hm0) (by rw [show o0 + ((k : Int) + 2).toNat * 1 = o0 + (k + 2) by omega]; simpa using hL2) ⟨_, rfl, ?_⟩)
              refine WA.y (i := 5) (NoPanic.then (NoPanic.body)) rfl (by kernel_rfl) (by kernel_rfl) (by kernel_rfl) rfl (Yd.int8 _ (by kernel_rfl) (by kernel_rfl) rfl rfl) ?_
              refine WA.y (i := 6) (NoPanic.then (NoPanic.body)) rfl (by kernel_rfl) (by kernel_rfl) (by kernel_rfl) rfl (Yd.mul rfl rfl (by omega) (by omega)) ?_
              refine WA.one (i := 11) (by kernel_rfl) ?_
              refine WO.h rfl Wt.none rfl (Hd.load1 (v := .int .u8 (gd b (k + 3)).toNat) (b := b0) (cs := cs0.toList) (by kernel_rfl) rfl (by simpa using hm0) (by rw [show o0 + ((k : Int) + 3).toNat * 1 = o0 + (k + 3) by omega]; simpa using hL3) ⟨_, rfl, ?_⟩)
              refine WA.y (i := 12) (NoPanic.then (NoPanic.body)) rfl (by kernel_rfl) (by kernel_rfl) (by kernel_rfl) rfl (Yd.int8 _ (by kernel_rfl) (by kernel_rfl) rfl rfl) ?_
              refine WA.y (i := 13) (NoPanic.then (NoPanic.body)) rfl (by kernel_rfl) (by kernel_rfl) (by kernel_rfl) rfl (Yd.add rfl rfl (by omega) (by omega)) ?_
              refine WA.renamed (t := 50) (v := .int .i64 (n : Int)) rfl (congrArg (Value.int .i64) (by omega)) ?_
              refine WA.y (i := 14) (NoPanic.then (NoPanic.body)) rfl (by kernel_rfl) (by kernel_rfl) (by kernel_rfl) rfl (Yd.assign rfl) ?_
              refine WA.done (by kernel_rfl) ?_
              refine DN.then_normal ?_
              refine WC.seq ?_
              refine WC.seq ?_
              refine WC.region ?_
              refine WL.y rfl (Yd.move rfl) ?_
              refine WL.y rfl (Yd.move rfl) ?_
              refine WL.y rfl (Yd.sub rfl rfl (by omega) (by omega)) ?_
              refine WL.y rfl (Yd.gtr rfl rfl) ?_
              refine WL.nil ?_
              refine DN.then_normal ?_
              refine WC.ite rfl (fun h54 => ?_) (fun h54 => ?_)
              · refine WC.seq ?_
                refine WC.region ?_
                refine WL.y rfl (Yd.assign rfl) ?_
                refine WL.y rfl (Yd.assign rfl) ?_
                refine WL.y rfl (Yd.assign rfl) ?_
                refine WL.nil ?_
                refine DN.then_normal ?_
                refine WC.ret ?_
                refine DN.then_ret ?_
                refine DN.ret3 Try.results35 rfl rfl rfl ?_
                have hg := getOf_bad' hkb h30 (by
                  rw [bodyAt_num, if_neg]
                  rintro ⟨c1, c2, c3⟩
                  omega)
                rw [hg]
                exact ⟨_, [], rfl, Ob.nil _, rfl⟩
              · have hn3 : k + 8 + n ≤ b.length := by omega
                have hbl : ((b.drop (k + 8)).take n).length = n := by simp only [List.length_take, List.length_drop]; omega
                have hbody := hv.cut (i := k + 8) (j := k + 8 + n) (n := n) rfl hn3
                refine WC.skip ?_
                refine DN.then_normal ?_
                refine WC.seq ?_
                refine WC.region ?_
                refine WL.y rfl (Yd.move rfl) ?_
                refine WL.y rfl (Yd.move rfl) ?_
                refine WL.y rfl (Yd.add rfl rfl (by omega) (by omega)) ?_
                refine WL.y rfl (Yd.move rfl) ?_
                refine WL.y rfl (Yd.add rfl rfl (by omega) (by omega)) ?_
                refine WL.y rfl (Yd.move rfl) ?_
                refine WL.y rfl (Yd.add rfl rfl (by omega) (by omega)) ?_
                refine WL.y rfl (Yd.slice (e := 5) (s := 1) (i := k + 8) (j := k + 8 + n) (by kernel_rfl) (by kernel_rfl) rfl ⟨_, _, rfl, rfl⟩ ⟨_, _, rfl, rfl⟩ (by omega) (by omega)) ?_
                refine WL.y rfl (Yd.assign rfl) ?_
                refine WL.nil ?_
                refine DN.then_normal ?_
                refine WC.seq ?_
                refine WC.region ?_
                refine WL.y rfl (Yd.move rfl) ?_
                refine WL.ca rfl (Ent.func Try.call30 rfl) (rput_tells _ ((b.drop (k + 8)).take n) H hbody (by omega)) ?_
                rintro x H1 ⟨u1, C1, rfl, hput, rfl⟩
                refine WL.y rfl (Yd.move rfl) ?_
                refine WL.y rfl (Yd.extract rfl rfl) ?_
                refine WL.y rfl (Yd.extract rfl rfl) ?_
                refine WL.y rfl (Yd.assign rfl) ?_
                refine WL.y rfl (Yd.assign rfl) ?_
                refine WL.nil ?_
                refine DN.then_normal ?_
                refine WC.seq ?_
                refine WC.seq ?_
                rcases Classical.em (((b.drop (k + 8)).take n).length ≤ 2000) with hA | hA
                · refine WC.draw 15 (by kernel_rfl) rfl ?_
                  refine WA.y (i := 0) (NoPanic.then (NoPanic.then (NoPanic.body))) rfl (by kernel_rfl) (by kernel_rfl) (by kernel_rfl) rfl (Yd.move rfl) ?_
                  refine WA.y (i := 1) (NoPanic.then (NoPanic.then (NoPanic.body))) rfl (by kernel_rfl) (by kernel_rfl) (by kernel_rfl) rfl (Yd.neq rfl rfl) ?_
                  refine WA.renamed (t := 69) (v := .bool false) rfl (congrArg Value.bool (decide_eq_false (putErr_no _ hA))) ?_
                  refine WA.y (i := 2) (NoPanic.then (NoPanic.then (NoPanic.body))) rfl (by kernel_rfl) (by kernel_rfl) (by kernel_rfl) rfl (Yd.move rfl) ?_
                  refine WA.gy (i := 3) (dj := 70) (NoPanic.then (NoPanic.then (NoPanic.body))) rfl (by kernel_rfl) (by kernel_rfl) (by kernel_rfl) rfl rfl rfl (Yd.move rfl) ?_
                  refine WA.gy (i := 5) (dj := 70) (NoPanic.then (NoPanic.then (NoPanic.body))) rfl (by kernel_rfl) (by kernel_rfl) (by kernel_rfl) rfl rfl rfl (Yd.move rfl) ?_
                  refine WA.gy (i := 6) (dj := 70) (NoPanic.then (NoPanic.then (NoPanic.body))) rfl (by kernel_rfl) (by kernel_rfl) (by kernel_rfl) rfl rfl rfl (Yd.move rfl) ?_
                  refine WA.gy (i := 7) (dj := 70) (NoPanic.then (NoPanic.then (NoPanic.body))) rfl (by kernel_rfl) (by kernel_rfl) (by kernel_rfl) rfl rfl rfl (Yd.move rfl) ?_
                  refine WA.gy (i := 8) (dj := 70) (NoPanic.then (NoPanic.then (NoPanic.body))) rfl (by kernel_rfl) (by kernel_rfl) (by kernel_rfl) rfl rfl rfl (Yd.add rfl rfl (by omega) (by omega)) ?_
                  refine WA.gy (i := 9) (dj := 70) (NoPanic.then (NoPanic.then (NoPanic.body))) rfl (by kernel_rfl) (by kernel_rfl) (by kernel_rfl) rfl rfl rfl (Yd.move rfl) ?_
                  refine WA.gy (i := 10) (dj := 70) (NoPanic.then (NoPanic.then (NoPanic.body))) rfl (by kernel_rfl) (by kernel_rfl) (by kernel_rfl) rfl rfl rfl (Yd.add rfl rfl (by omega) (by omega)) ?_
                  refine WA.gy (i := 11) (dj := 70) (NoPanic.then (NoPanic.then (NoPanic.body))) rfl (by kernel_rfl) (by kernel_rfl) (by kernel_rfl) rfl rfl rfl (Yd.slice (e := 5) (s := 1) (i := k) (j := k + 8 + n) (by kernel_rfl) (by kernel_rfl) rfl ⟨_, _, rfl, rfl⟩ ⟨_, _, rfl, rfl⟩ (by omega) (by omega)) ?_
                  refine WA.two (i := 4) (j := 12) (by kernel_rfl) ?_ ?_
                  · refine WO.h rfl (Wt.yes (dj := 70) rfl rfl) rfl (Hd.toStr (e := 5) (bs := putOf ((b.drop (k + 8)).take n)) (by kernel_rfl) (by kernel_rfl) Try.underlying9 rfl (hput.bs.mono fun x hx => List.mem_append_left _ hx) ⟨_, rfl, ?_⟩)
                    refine WA.one (i := 12) (by kernel_rfl) ?_
                    refine WO.h rfl (Wt.yes (dj := 70) rfl rfl) rfl (Hd.toStr (e := 5) (bs := (b.drop k).take (8 + n)) (by kernel_rfl) (by kernel_rfl) Try.underlying9 rfl ((hv.cut (i := k) (j := k + 8 + n) (n := 8 + n) (by omega) hn3).mono fun x hx => List.mem_append_right _ hx) ⟨_, rfl, ?_⟩)
                    refine WA.gy (i := 13) (dj := 70) (NoPanic.then (NoPanic.then (NoPanic.body))) rfl (by kernel_rfl) (by kernel_rfl) (by kernel_rfl) rfl rfl rfl (Yd.neqS rfl rfl) ?_
                    refine WA.y (i := 14) (NoPanic.then (NoPanic.then (NoPanic.body))) rfl (by kernel_rfl) (by kernel_rfl) (by kernel_rfl) rfl (Yd.pickF rfl rfl) ?_
                    refine WA.done (by kernel_rfl) ?_
                    refine DN.then_normal ?_
                    refine WC.ite rfl (fun h82 => ?_) (fun h82 => ?_)
                    · refine WC.seq ?_
                      refine WC.region ?_
                      refine WL.y rfl (Yd.assign rfl) ?_
                      refine WL.y rfl (Yd.assign rfl) ?_
                      refine WL.y rfl (Yd.assign rfl) ?_
                      refine WL.nil ?_
                      refine DN.then_normal ?_
                      refine WC.ret ?_
                      refine DN.then_ret ?_
                      refine DN.forget H (List.sublist_append_right _ _) ?_
                      refine DN.ret3 Try.results35 rfl rfl rfl ?_
                      have hg := getOf_bad' hkb h30 (by
                        rw [bodyAt_num, if_neg]
                        rintro ⟨c1, c2, c3⟩
                        rw [← hn] at c3
                        apply h82
                        rw [putOf, if_pos hA, c3])
                      rw [hg]
                      exact ⟨_, [], rfl, Ob.nil _, rfl⟩
                    · refine WC.skip ?_
                      refine DN.then_normal ?_
                      refine WC.seq ?_
                      refine WC.region ?_
                      refine WL.y rfl (Yd.move rfl) ?_
                      refine WL.ca rfl (Ent.func Try.call25 rfl) (copy_spec _ ((b.drop (k + 8)).take n) _ (hbody.mono fun x hx => List.mem_append_right _ hx) (by omega)) ?_
                      rintro x H1 ⟨C3, hC3, rfl⟩
                      refine WL.y rfl (Yd.move rfl) ?_
                      refine WL.y rfl (Yd.add rfl rfl (by omega) (by omega)) ?_
                      refine WL.y rfl (Yd.move rfl) ?_
                      refine WL.y rfl (Yd.add rfl rfl (by omega) (by omega)) ?_
                      refine WL.y rfl (Yd.assign rfl) ?_
                      refine WL.y rfl (Yd.assign rfl) ?_
                      refine WL.y rfl (Yd.assign rfl) ?_
                      refine WL.nil ?_
                      refine DN.then_normal ?_
                      refine WC.ret ?_
                      refine DN.forget (C3 ++ H) (List.Sublist.append (List.Sublist.refl _) (List.sublist_append_right _ _)) ?_
                      refine DN.ret3 Try.results35 rfl rfl rfl ?_
                      have hg : getOf b k = ((b.drop (k + 8)).take n, (k : Int) + 8 + n, 0) := by
                        have := getOf_good' (l := (b.drop (k + 8)).take n) hkb h30 (by
                          rw [bodyAt_num, ← hn, if_pos]
                          refine ⟨by omega, by omega, ?_⟩
                          have h83 : putOf ((b.drop (k + 8)).take n) = (b.drop k).take (8 + n) := str_inj.1 (by simpa using h82)
                          rwa [putOf, if_pos hA] at h83)
                        rw [this, hbl]
                      rw [hg]
                      exact ⟨_, C3, rfl, hC3, rfl⟩
                  · refine WO.h rfl (Wt.yes (dj := 70) rfl rfl) rfl (Hd.toStr (e := 5) (bs := (b.drop k).take (8 + n)) (by kernel_rfl) (by kernel_rfl) Try.underlying9 rfl ((hv.cut (i := k) (j := k + 8 + n) (n := 8 + n) (by omega) hn3).mono fun x hx => List.mem_append_right _ hx) ⟨_, rfl, ?_⟩)
                    refine WA.one (i := 4) (by kernel_rfl) ?_
                    refine WO.h rfl (Wt.yes (dj := 70) rfl rfl) rfl (Hd.toStr (e := 5) (bs := putOf ((b.drop (k + 8)).take n)) (by kernel_rfl) (by kernel_rfl) Try.underlying9 rfl (hput.bs.mono fun x hx => List.mem_append_left _ hx) ⟨_, rfl, ?_⟩)
                    refine WA.gy (i := 13) (dj := 70) (NoPanic.then (NoPanic.then (NoPanic.body))) rfl (by kernel_rfl) (by kernel_rfl) (by kernel_rfl) rfl rfl rfl (Yd.neqS rfl rfl) ?_
                    refine WA.y (i := 14) (NoPanic.then (NoPanic.then (NoPanic.body))) rfl (by kernel_rfl) (by kernel_rfl) (by kernel_rfl) rfl (Yd.pickF rfl rfl) ?_
                    refine WA.done (by kernel_rfl) ?_
                    refine DN.then_normal ?_
                    refine WC.ite rfl (fun h82 => ?_) (fun h82 => ?_)
                    · refine WC.seq ?_
                      refine WC.region ?_
                      refine WL.y rfl (Yd.assign rfl) ?_
                      refine WL.y rfl (Yd.assign rfl) ?_
                      refine WL.y rfl (Yd.assign rfl) ?_
                      refine WL.nil ?_
                      refine DN.then_normal ?_
                      refine WC.ret ?_
                      refine DN.then_ret ?_
                      refine DN.forget H (List.sublist_append_right _ _) ?_
                      refine DN.ret3 Try.results35 rfl rfl rfl ?_
                      have hg := getOf_bad' hkb h30 (by
                        rw [bodyAt_num, if_neg]
                        rintro ⟨c1, c2, c3⟩
                        rw [← hn] at c3
                        apply h82
                        rw [putOf, if_pos hA, c3])
                      rw [hg]
                      exact ⟨_, [], rfl, Ob.nil _, rfl⟩
                    · refine WC.skip ?_
                      refine DN.then_normal ?_
                      refine WC.seq ?_
                      refine WC.region ?_
                      refine WL.y rfl (Yd.move rfl) ?_
                      refine WL.ca rfl (Ent.func Try.call25 rfl) (copy_spec _ ((b.drop (k + 8)).take n) _ (hbody.mono fun x hx => List.mem_append_right _ hx) (by omega)) ?_
                      rintro x H1 ⟨C3, hC3, rfl⟩
                      refine WL.y rfl (Yd.move rfl) ?_
                      refine WL.y rfl (Yd.add rfl rfl (by omega) (by omega)) ?_
                      refine WL.y rfl (Yd.move rfl) ?_
                      refine WL.y rfl (Yd.add rfl rfl (by omega) (by omega)) ?_
                      refine WL.y rfl (Yd.assign rfl) ?_
                      refine WL.y rfl (Yd.assign rfl) ?_
                      refine WL.y rfl (Yd.assign rfl) ?_
                      refine WL.nil ?_
                      refine DN.then_normal ?_
                      refine WC.ret ?_
                      refine DN.forget (C3 ++ H) (List.Sublist.append (List.Sublist.refl _) (List.sublist_append_right _ _)) ?_
                      refine DN.ret3 Try.results35 rfl rfl rfl ?_
                      have hg : getOf b k = ((b.drop (k + 8)).take n, (k : Int) + 8 + n, 0) := by
                        have := getOf_good' (l := (b.drop (k + 8)).take n) hkb h30 (by
                          rw [bodyAt_num, ← hn, if_pos]
                          refine ⟨by omega, by omega, ?_⟩
                          have h83 : putOf ((b.drop (k + 8)).take n) = (b.drop k).take (8 + n) := str_inj.1 (by simpa using h82)
                          rwa [putOf, if_pos hA] at h83)
                        rw [this, hbl]
                      rw [hg]
                      exact ⟨_, C3, rfl, hC3, rfl⟩
                · refine WC.draw 15 (by kernel_rfl) rfl ?_
                  refine WA.y (i := 0) (NoPanic.then (NoPanic.then (NoPanic.body))) rfl (by kernel_rfl) (by kernel_rfl) (by kernel_rfl) rfl (Yd.move rfl) ?_
                  refine WA.y (i := 1) (NoPanic.then (NoPanic.then (NoPanic.body))) rfl (by kernel_rfl) (by kernel_rfl) (by kernel_rfl) rfl (Yd.neq rfl rfl) ?_
                  refine WA.renamed (t := 69) (v := .bool true) rfl (congrArg Value.bool (decide_eq_true (putErr_yes _ hA))) ?_
                  refine WA.y (i := 2) (NoPanic.then (NoPanic.then (NoPanic.body))) rfl (by kernel_rfl) (by kernel_rfl) (by kernel_rfl) rfl (Yd.move rfl) ?_
                  refine WA.gn (i := 3) (dj := 70) (NoPanic.then (NoPanic.then (NoPanic.body))) rfl (by kernel_rfl) (by kernel_rfl) (by kernel_rfl) rfl rfl rfl rfl ?_
                  refine WA.gn (i := 4) (dj := 70) (NoPanic.then (NoPanic.then (NoPanic.body))) rfl (by kernel_rfl) (by kernel_rfl) (by kernel_rfl) rfl rfl rfl rfl ?_
                  refine WA.gn (i := 5) (dj := 70) (NoPanic.then (NoPanic.then (NoPanic.body))) rfl (by kernel_rfl) (by kernel_rfl) (by kernel_rfl) rfl rfl rfl rfl ?_
                  refine WA.gn (i := 6) (dj := 70) (NoPanic.then (NoPanic.then (NoPanic.body))) rfl (by kernel_rfl) (by kernel_rfl) (by kernel_rfl) rfl rfl rfl rfl ?_
                  refine WA.gn (i := 7) (dj := 70) (NoPanic.then (NoPanic.then (NoPanic.body))) rfl (by kernel_rfl) (by kernel_rfl) (by kernel_rfl) rfl rfl rfl rfl ?_
                  refine WA.gn (i := 8) (dj := 70) (NoPanic.then (NoPanic.then (NoPanic.body))) rfl (by kernel_rfl) (by kernel_rfl) (by kernel_rfl) rfl rfl rfl rfl ?_
                  refine WA.gn (i := 9) (dj := 70) (NoPanic.then (NoPanic.then (NoPanic.body))) rfl (by kernel_rfl) (by kernel_rfl) (by kernel_rfl) rfl rfl rfl rfl ?_
                  refine WA.gn (i := 10) (dj := 70) (NoPanic.then (NoPanic.then (NoPanic.body))) rfl (by kernel_rfl) (by kernel_rfl) (by kernel_rfl) rfl rfl rfl rfl ?_
                  refine WA.gn (i := 11) (dj := 70) (NoPanic.then (NoPanic.then (NoPanic.body))) rfl (by kernel_rfl) (by kernel_rfl) (by kernel_rfl) rfl rfl rfl rfl ?_
                  refine WA.gn (i := 12) (dj := 70) (NoPanic.then (NoPanic.then (NoPanic.body))) rfl (by kernel_rfl) (by kernel_rfl) (by kernel_rfl) rfl rfl rfl rfl ?_
                  refine WA.gn (i := 13) (dj := 70) (NoPanic.then (NoPanic.then (NoPanic.body))) rfl (by kernel_rfl) (by kernel_rfl) (by kernel_rfl) rfl rfl rfl rfl ?_
                  refine WA.y (i := 14) (NoPanic.then (NoPanic.then (NoPanic.body))) rfl (by kernel_rfl) (by kernel_rfl) (by kernel_rfl) rfl (Yd.pickT rfl rfl) ?_
                  refine WA.done (by kernel_rfl) ?_
                  refine DN.then_normal ?_
                  refine WC.yes rfl ?_
                  refine WC.seq ?_
                  refine WC.region ?_
                  refine WL.y rfl (Yd.assign rfl) ?_
                  refine WL.y rfl (Yd.assign rfl) ?_
                  refine WL.y rfl (Yd.assign rfl) ?_
                  refine WL.nil ?_
                  refine DN.then_normal ?_
                  refine WC.ret ?_
                  refine DN.then_ret ?_
                  refine DN.forget H (List.sublist_append_right _ _) ?_
                  refine DN.ret3 Try.results35 rfl rfl rfl ?_
                  have hg := getOf_bad' hkb h30 (by
                    rw [bodyAt_num, if_neg]
                    rintro ⟨c1, c2, c3⟩
                    omega)
                  rw [hg]
                  exact ⟨_, [], rfl, Ob.nil _, rfl⟩
            · refine WO.h rfl Wt.none rfl (Hd.load1 (v := .int .u8 (gd b (k + 3)).toNat) (b := b0) (cs := cs0.toList) (by kernel_rfl) rfl (by simpa using hm0) (by rw [show o0 + ((k : Int) + 3).toNat * 1 = o0 + (k + 3) by omega]; simpa using hL3) ⟨_, rfl, ?_⟩)
              refine WA.y (i := 12) (NoPanic.then (NoPanic.body)) rfl (by kernel_rfl) (by kernel_rfl) (by kernel_rfl) rfl (Yd.int8 _ (by kernel_rfl) (by kernel_rfl) rfl rfl) ?_
              refine WA.one (i := 4) (by kernel_rfl) ?_
              refine WO.h rfl Wt.none rfl (Hd.load1 (v := .int .u8 (gd b (k + 2)).toNat) (b := b0) (cs := cs0.toList) (by kernel_rfl) rfl (by simpa using hm0) (by rw [show o0 + ((k : Int) + 2).toNat * 1 = o0 + (k + 2) by omega]; simpa using hL2) ⟨_, rfl, ?_⟩)
              refine WA.y (i := 5) (NoPanic.then (NoPanic.body)) rfl (by kernel_rfl) (by kernel_rfl) (by kernel_rfl) rfl (Yd.int8 _ (by kernel_rfl) (by kernel_rfl) rfl rfl) ?_
              refine WA.y (i := 6) (NoPanic.then (NoPanic.body)) rfl (by kernel_rfl) (by kernel_rfl) (by kernel_rfl) rfl (Yd.mul rfl rfl (by omega) (by omega)) ?_
              refine WA.y (i := 13) (NoPanic.then (NoPanic.body)) rfl (by kernel_rfl) (by kernel_rfl) (by kernel_rfl) rfl (Yd.add rfl rfl (by omega) (by omega)) ?_
              refine WA.renamed (t := 50) (v := .int .i64 (n : Int)) rfl (congrArg (Value.int .i64) (by omega)) ?_
              refine WA.y (i := 14) (NoPanic.then (NoPanic.body)) rfl (by kernel_rfl) (by kernel_rfl) (by kernel_rfl) rfl (Yd.assign rfl) ?_
              refine WA.done (by kernel_rfl) ?_
              refine DN.then_normal ?_
              refine WC.seq ?_
              refine WC.seq ?_
              refine WC.region ?_
              refine WL.y rfl (Yd.move rfl) ?_
              refine WL.y rfl (Yd.move rfl) ?_
              refine WL.y rfl (Yd.sub rfl rfl (by omega) (by omega)) ?_
              refine WL.y rfl (Yd.gtr rfl rfl) ?_
              refine WL.nil ?_
              refine DN.then_normal ?_
              refine WC.ite rfl (fun h54 => ?_) (fun h54 => ?_)
              · refine WC.seq ?_
                refine WC.region ?_
                refine WL.y rfl (Yd.assign rfl) ?_
                refine WL.y rfl (Yd.assign rfl) ?_
                refine WL.y rfl (Yd.assign rfl) ?_
                refine WL.nil ?_
                refine DN.then_normal ?_
                refine WC.ret ?_
                refine DN.then_ret ?_
                refine DN.ret3 Try.results35 rfl rfl rfl ?_
                have hg := getOf_bad' hkb h30 (by
                  rw [bodyAt_num, if_neg]
                  rintro ⟨c1, c2, c3⟩
                  omega)
                rw [hg]
                exact ⟨_, [], rfl, Ob.nil _, rfl⟩
              · have hn3 : k + 8 + n ≤ b.length := by omega
                have hbl : ((b.drop (k + 8)).take n).length = n := by simp only [List.length_take, List.length_drop]; omega
                have hbody := hv.cut (i := k + 8) (j := k + 8 + n) (n := n) rfl hn3
                refine WC.skip ?_
                refine DN.then_normal ?_
                refine WC.seq ?_
                refine WC.region ?_
                refine WL.y rfl (Yd.move rfl) ?_
                refine WL.y rfl (Yd.move rfl) ?_
                refine WL.y rfl (Yd.add rfl rfl (by omega) (by omega)) ?_
                refine WL.y rfl (Yd.move rfl) ?_
                refine WL.y rfl (Yd.add rfl rfl (by omega) (by omega)) ?_
                refine WL.y rfl (Yd.move rfl) ?_
                refine WL.y rfl (Yd.add rfl rfl (by omega) (by omega)) ?_
                refine WL.y rfl (Yd.slice (e := 5) (s := 1) (i := k + 8) (j := k + 8 + n) (by kernel_rfl) (by kernel_rfl) rfl ⟨_, _, rfl, rfl⟩ ⟨_, _, rfl, rfl⟩ (by omega) (by omega)) ?_
                refine WL.y rfl (Yd.assign rfl) ?_
                refine WL.nil ?_
                refine DN.then_normal ?_
                refine WC.seq ?_
                refine WC.region ?_
                refine WL.y rfl (Yd.move rfl) ?_
                refine WL.ca rfl (Ent.func Try.call30 rfl) (rput_tells _ ((b.drop (k + 8)).take n) H hbody (by omega)) ?_
                rintro x H1 ⟨u1, C1, rfl, hput, rfl⟩
                refine WL.y rfl (Yd.move rfl) ?_
                refine WL.y rfl (Yd.extract rfl rfl) ?_
                refine WL.y rfl (Yd.extract rfl rfl) ?_
                refine WL.y rfl (Yd.assign rfl) ?_
                refine WL.y rfl (Yd.assign rfl) ?_
                refine WL.nil ?_
                refine DN.then_normal ?_
                refine WC.seq ?_
                refine WC.seq ?_
                rcases Classical.em (((b.drop (k + 8)).take n).length ≤ 2000) with hA | hA
                · refine WC.draw 15 (by kernel_rfl) rfl ?_
                  refine WA.y (i := 0) (NoPanic.then (NoPanic.then (NoPanic.body))) rfl (by kernel_rfl) (by kernel_rfl) (by kernel_rfl) rfl (Yd.move rfl) ?_
                  refine WA.y (i := 1) (NoPanic.then (NoPanic.then (NoPanic.body))) rfl (by kernel_rfl) (by kernel_rfl) (by kernel_rfl) rfl (Yd.neq rfl rfl) ?_
                  refine WA.renamed (t := 69) (v := .bool false) rfl (congrArg Value.bool (decide_eq_false (putErr_no _ hA))) ?_
                  refine WA.y (i := 2) (NoPanic.then (NoPanic.then (NoPanic.body))) rfl (by kernel_rfl) (by kernel_rfl) (by kernel_rfl) rfl (Yd.move rfl) ?_
                  refine WA.gy (i := 3) (dj := 70) (NoPanic.then (NoPanic.then (NoPanic.body))) rfl (by kernel_rfl) (by kernel_rfl) (by kernel_rfl) rfl rfl rfl (Yd.move rfl) ?_
                  refine WA.gy (i := 5) (dj := 70) (NoPanic.then (NoPanic.then (NoPanic.body))) rfl (by kernel_rfl) (by kernel_rfl) (by kernel_rfl) rfl rfl rfl (Yd.move rfl) ?_
                  refine WA.gy (i := 6) (dj := 70) (NoPanic.then (NoPanic.then (NoPanic.body))) rfl (by kernel_rfl) (by kernel_rfl) (by kernel_rfl) rfl rfl rfl (Yd.move rfl) ?_
                  refine WA.gy (i := 7) (dj := 70) (NoPanic.then (NoPanic.then (NoPanic.body))) rfl (by kernel_rfl) (by kernel_rfl) (by kernel_rfl) rfl rfl rfl (Yd.move rfl) ?_
                  refine WA.gy (i := 8) (dj := 70) (NoPanic.then (NoPanic.then (NoPanic.body))) rfl (by kernel_rfl) (by kernel_rfl) (by kernel_rfl) rfl rfl rfl (Yd.add rfl rfl (by omega) (by omega)) ?_
                  refine WA.gy (i := 9) (dj := 70) (NoPanic.then (NoPanic.then (NoPanic.body))) rfl (by kernel_rfl) (by kernel_rfl) (by kernel_rfl) rfl rfl rfl (Yd.move rfl) ?_
                  refine WA.gy (i := 10) (dj := 70) (NoPanic.then (NoPanic.then (NoPanic.body))) rfl (by kernel_rfl) (by kernel_rfl) (by kernel_rfl) rfl rfl rfl (Yd.add rfl rfl (by omega) (by omega)) ?_
                  refine WA.gy (i := 11) (dj := 70) (NoPanic.then (NoPanic.then (NoPanic.body))) rfl (by kernel_rfl) (by kernel_rfl) (by kernel_rfl) rfl rfl rfl (Yd.slice (e := 5) (s := 1) (i := k) (j := k + 8 + n) (by kernel_rfl) (by kernel_rfl) rfl ⟨_, _, rfl, rfl⟩ ⟨_, _, rfl, rfl⟩ (by omega) (by omega)) ?_
                  refine WA.two (i := 4) (j := 12) (by kernel_rfl) ?_ ?_
                  · refine WO.h rfl (Wt.yes (dj := 70) rfl rfl) rfl (Hd.toStr (e := 5) (bs := putOf ((b.drop (k + 8)).take n)) (by kernel_rfl) (by kernel_rfl) Try.underlying9 rfl (hput.bs.mono fun x hx => List.mem_append_left _ hx) ⟨_, rfl, ?_⟩)
                    refine WA.one (i := 12) (by kernel_rfl) ?_
                    refine WO.h rfl (Wt.yes (dj := 70) rfl rfl) rfl (Hd.toStr (e := 5) (bs := (b.drop k).take (8 + n)) (by kernel_rfl) (by kernel_rfl) Try.underlying9 rfl ((hv.cut (i := k) (j := k + 8 + n) (n := 8 + n) (by omega) hn3).mono fun x hx => List.mem_append_right _ hx) ⟨_, rfl, ?_⟩)
                    refine WA.gy (i := 13) (dj := 70) (NoPanic.then (NoPanic.then (NoPanic.body))) rfl (by kernel_rfl) (by kernel_rfl) (by kernel_rfl) rfl rfl rfl (Yd.neqS rfl rfl) ?_
                    refine WA.y (i := 14) (NoPanic.then (NoPanic.then (NoPanic.body))) rfl (by kernel_rfl) (by kernel_rfl) (by kernel_rfl) rfl (Yd.pickF rfl rfl) ?_
                    refine WA.done (by kernel_rfl) ?_
                    refine DN.then_normal ?_
                    refine WC.ite rfl (fun h82 => ?_) (fun h82 => ?_)
                    · refine WC.seq ?_
                      refine WC.region ?_
                      refine WL.y rfl (Yd.assign rfl) ?_
                      refine WL.y rfl (Yd.assign rfl) ?_
                      refine WL.y rfl (Yd.assign rfl) ?_
                      refine WL.nil ?_
                      refine DN.then_normal ?_
                      refine WC.ret ?_
                      refine DN.then_ret ?_
                      refine DN.forget H (List.sublist_append_right _ _) ?_
                      refine DN.ret3 Try.results35 rfl rfl rfl ?_
                      have hg := getOf_bad' hkb h30 (by
                        rw [bodyAt_num, if_neg]
                        rintro ⟨c1, c2, c3⟩
                        rw [← hn] at c3
                        apply h82
                        rw [putOf, if_pos hA, c3])
                      rw [hg]
                      exact ⟨_, [], rfl, Ob.nil _, rfl⟩
                    · refine WC.skip ?_
                      refine DN.then_normal ?_
                      refine WC.seq ?_
                      refine WC.region ?_
                      refine WL.y rfl (Yd.move rfl) ?_
                      refine WL.ca rfl (Ent.func Try.call25 rfl) (copy_spec _ ((b.drop (k + 8)).take n) _ (hbody.mono fun x hx => List.mem_append_right _ hx) (by omega)) ?_
                      rintro x H1 ⟨C3, hC3, rfl⟩
                      refine WL.y rfl (Yd.move rfl) ?_
                      refine WL.y rfl (Yd.add rfl rfl (by omega) (by omega)) ?_
                      refine WL.y rfl (Yd.move rfl) ?_
                      refine WL.y rfl (Yd.add rfl rfl (by omega) (by omega)) ?_
                      refine WL.y rfl (Yd.assign rfl) ?_
                      refine WL.y rfl (Yd.assign rfl) ?_
                      refine WL.y rfl (Yd.assign rfl) ?_
                      refine WL.nil ?_
                      refine DN.then_normal ?_
                      refine WC.ret ?_
                      refine DN.forget (C3 ++ H) (List.Sublist.append (List.Sublist.refl _) (List.sublist_append_right _ _)) ?_
                      refine DN.ret3 Try.results35 rfl rfl rfl ?_
                      have hg : getOf b k = ((b.drop (k + 8)).take n, (k : Int) + 8 + n, 0) := by
                        have := getOf_good' (l := (b.drop (k + 8)).take n) hkb h30 (by
                          rw [bodyAt_num, ← hn, if_pos]
                          refine ⟨by omega, by omega, ?_⟩
                          have h83 : putOf ((b.drop (k + 8)).take n) = (b.drop k).take (8 + n) := str_inj.1 (by simpa using h82)
                          rwa [putOf, if_pos hA] at h83)
                        rw [this, hbl]
                      rw [hg]
                      exact ⟨_, C3, rfl, hC3, rfl⟩
                  · refine WO.h rfl (Wt.yes (dj := 70) rfl rfl) rfl (Hd.toStr (e := 5) (bs := (b.drop k).take (8 + n)) (by kernel_rfl) (by kernel_rfl) Try.underlying9 rfl ((hv.cut (i := k) (j := k + 8 + n) (n := 8 + n) (by omega) hn3).mono fun x hx => List.mem_append_right _ hx) ⟨_, rfl, ?_⟩)
                    refine WA.one (i := 4) (by kernel_rfl) ?_
                    refine WO.h rfl (Wt.yes (dj := 70) rfl rfl) rfl (Hd.toStr (e := 5) (bs := putOf ((b.drop (k + 8)).take n)) (by kernel_rfl) (by kernel_rfl) Try.underlying9 rfl (hput.bs.mono fun x hx => List.mem_append_left _ hx) ⟨_, rfl, ?_⟩)
                    refine WA.gy (i := 13) (dj := 70) (NoPanic.then (NoPanic.then (NoPanic.body))) rfl (by kernel_rfl) (by kernel_rfl) (by kernel_rfl) rfl rfl rfl (Yd.neqS rfl rfl) ?_
                    refine WA.y (i := 14) (NoPanic.then (NoPanic.then (NoPanic.body))) rfl (by kernel_rfl) (by kernel_rfl) (by kernel_rfl) rfl (Yd.pickF rfl rfl) ?_
                    refine WA.done (by kernel_rfl) ?_
                    refine DN.then_normal ?_
                    refine WC.ite rfl (fun h82 => ?_) (fun h82 => ?_)
                    · refine WC.seq ?_
                      refine WC.region ?_
                      refine WL.y rfl (Yd.assign rfl) ?_
                      refine WL.y rfl (Yd.assign rfl) ?_
                      refine WL.y rfl (Yd.assign rfl) ?_
                      refine WL.nil ?_
                      refine DN.then_normal ?_
                      refine WC.ret ?_
                      refine DN.then_ret ?_
                      refine DN.forget H (List.sublist_append_right _ _) ?_
                      refine DN.ret3 Try.results35 rfl rfl rfl ?_
                      have hg := getOf_bad' hkb h30 (by
                        rw [bodyAt_num, if_neg]
                        rintro ⟨c1, c2, c3⟩
                        rw [← hn] at c3
                        apply h82
                        rw [putOf, if_pos hA, c3])
                      rw [hg]
                      exact ⟨_, [], rfl, Ob.nil _, rfl⟩
                    · refine WC.skip ?_
                      refine DN.then_normal ?_
                      refine WC.seq ?_
                      refine WC.region ?_
                      refine WL.y rfl (Yd.move rfl) ?_
                      refine WL.ca rfl (Ent.func Try.call25 rfl) (copy_spec _ ((b.drop (k + 8)).take n) _ (hbody.mono fun x hx => List.mem_append_right _ hx) (by omega)) ?_
                      rintro x H1 ⟨C3, hC3, rfl⟩
                      refine WL.y rfl (Yd.move rfl) ?_
                      refine WL.y rfl (Yd.add rfl rfl (by omega) (by omega)) ?_
                      refine WL.y rfl (Yd.move rfl) ?_
                      refine WL.y rfl (Yd.add rfl rfl (by omega) (by omega)) ?_
                      refine WL.y rfl (Yd.assign rfl) ?_
                      refine WL.y rfl (Yd.assign rfl) ?_
                      refine WL.y rfl (Yd.assign rfl) ?_
                      refine WL.nil ?_
                      refine DN.then_normal ?_
                      refine WC.ret ?_
                      refine DN.forget (C3 ++ H) (List.Sublist.append (List.Sublist.refl _) (List.sublist_append_right _ _)) ?_
                      refine DN.ret3 Try.results35 rfl rfl rfl ?_
                      have hg : getOf b k = ((b.drop (k + 8)).take n, (k : Int) + 8 + n, 0) := by
                        have := getOf_good' (l := (b.drop (k + 8)).take n) hkb h30 (by
                          rw [bodyAt_num, ← hn, if_pos]
                          refine ⟨by omega, by omega, ?_⟩
                          have h83 : putOf ((b.drop (k + 8)).take n) = (b.drop k).take (8 + n) := str_inj.1 (by simpa using h82)
                          rwa [putOf, if_pos hA] at h83)
                        rw [this, hbl]
                      rw [hg]
                      exact ⟨_, C3, rfl, hC3, rfl⟩
                · refine WC.draw 15 (by kernel_rfl) rfl ?_
                  refine WA.y (i := 0) (NoPanic.then (NoPanic.then (NoPanic.body))) rfl (by kernel_rfl) (by kernel_rfl) (by kernel_rfl) rfl (Yd.move rfl) ?_
                  refine WA.y (i := 1) (NoPanic.then (NoPanic.then (NoPanic.body))) rfl (by kernel_rfl) (by kernel_rfl) (by kernel_rfl) rfl (Yd.neq rfl rfl) ?_
                  refine WA.renamed (t := 69) (v := .bool true) rfl (congrArg Value.bool (decide_eq_true (putErr_yes _ hA))) ?_
                  refine WA.y (i := 2) (NoPanic.then (NoPanic.then (NoPanic.body))) rfl (by kernel_rfl) (by kernel_rfl) (by kernel_rfl) rfl (Yd.move rfl) ?_
                  refine WA.gn (i := 3) (dj := 70) (NoPanic.then (NoPanic.then (NoPanic.body))) rfl (by kernel_rfl) (by kernel_rfl) (by kernel_rfl) rfl rfl rfl rfl ?_
                  refine WA.gn (i := 4) (dj := 70) (NoPanic.then (NoPanic.then (NoPanic.body))) rfl (by kernel_rfl) (by kernel_rfl) (by kernel_rfl) rfl rfl rfl rfl ?_
                  refine WA.gn (i := 5) (dj := 70) (NoPanic.then (NoPanic.then (NoPanic.body))) rfl (by kernel_rfl) (by kernel_rfl) (by kernel_rfl) rfl rfl rfl rfl ?_
                  refine WA.gn (i := 6) (dj := 70) (NoPanic.then (NoPanic.then (NoPanic.body))) rfl (by kernel_rfl) (by kernel_rfl) (by kernel_rfl) rfl rfl rfl rfl ?_
                  refine WA.gn (i := 7) (dj := 70) (NoPanic.then (NoPanic.then (NoPanic.body))) rfl (by kernel_rfl) (by kernel_rfl) (by kernel_rfl) rfl rfl rfl rfl ?_
                  refine WA.gn (i := 8) (dj := 70) (NoPanic.then (NoPanic.then (NoPanic.body))) rfl (by kernel_rfl) (by kernel_rfl) (by kernel_rfl) rfl rfl rfl rfl ?_
                  refine WA.gn (i := 9) (dj := 70) (NoPanic.then (NoPanic.then (NoPanic.body))) rfl (by kernel_rfl) (by kernel_rfl) (by kernel_rfl) rfl rfl rfl rfl ?_
                  refine WA.gn (i := 10) (dj := 70) (NoPanic.then (NoPanic.then (NoPanic.body))) rfl (by kernel_rfl) (by kernel_rfl) (by kernel_rfl) rfl rfl rfl rfl ?_
                  refine WA.gn (i := 11) (dj := 70) (NoPanic.then (NoPanic.then (NoPanic.body))) rfl (by kernel_rfl) (by kernel_rfl) (by kernel_rfl) rfl rfl rfl rfl ?_
                  refine WA.gn (i := 12) (dj := 70) (NoPanic.then (NoPanic.then (NoPanic.body))) rfl (by kernel_rfl) (by kernel_rfl) (by kernel_rfl) rfl rfl rfl rfl ?_
                  refine WA.gn (i := 13) (dj := 70) (NoPanic.then (NoPanic.then (NoPanic.body))) rfl (by kernel_rfl) (by kernel_rfl) (by kernel_rfl) rfl rfl rfl rfl ?_
                  refine WA.y (i := 14) (NoPanic.then (NoPanic.then (NoPanic.body))) rfl (by kernel_rfl) (by kernel_rfl) (by kernel_rfl) rfl (Yd.pickT rfl rfl) ?_
                  refine WA.done (by kernel_rfl) ?_
                  refine DN.then_normal ?_
                  refine WC.yes rfl ?_
                  refine WC.seq ?_
                  refine WC.region ?_
                  refine WL.y rfl (Yd.assign rfl) ?_
                  refine WL.y rfl (Yd.assign rfl) ?_
                  refine WL.y rfl (Yd.assign rfl) ?_
                  refine WL.nil ?_
                  refine DN.then_normal ?_
                  refine WC.ret ?_
                  refine DN.then_ret ?_
                  refine DN.forget H (List.sublist_append_right _ _) ?_
                  refine DN.ret3 Try.results35 rfl rfl rfl ?_
                  have hg := getOf_bad' hkb h30 (by
                    rw [bodyAt_num, if_neg]
                    rintro ⟨c1, c2, c3⟩
                    omega)
                  rw [hg]
                  exact ⟨_, [], rfl, Ob.nil _, rfl⟩

end Go.Proofs.Ytfacofbobmlmiaa
