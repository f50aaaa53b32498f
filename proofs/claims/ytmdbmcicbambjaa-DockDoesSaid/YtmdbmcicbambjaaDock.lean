/-
  The walks of the dock.
-/
import Derived.Test.YtmdbmcicbambjaaRows
import Derived.Test.YtmdbmcicbambjaaDockMath
set_option linter.unusedVariables false
set_option linter.unusedSimpArgs false
set_option maxHeartbeats 2000000
namespace Go.Proofs.Ytmdbmcicbambjaa
open Go.SL
/-- is a room no room? -/
def badRoom (n : Int) : Bool := decide (n < 0) || decide (1000000 < n)
theorem findIdx_yes (rs : List Int) (i : Nat) (hi : i < rs.length) (h : badRoom (rs.getD i 0) = true) (hno : ∀ j, j < i → badRoom (rs.getD j 0) = false) : rs.findIdx? badRoom = some i := by
  rw [List.findIdx?_eq_some_iff_getElem]
  refine ⟨hi, by simpa [List.getD, hi] using h, fun j hj => ?_⟩
  have := hno j hj
  have hj2 : j < rs.length := by omega
  simpa [List.getD, hj2] using this
theorem findIdx_no (rs : List Int) (hno : ∀ j, j < rs.length → badRoom (rs.getD j 0) = false) : rs.findIdx? badRoom = none := by
  rw [List.findIdx?_eq_none_iff]
  intro x hx
  obtain ⟨j, hj, rfl⟩ := List.getElem_of_mem hx
  have := hno j hj
  simpa [List.getD, hj] using this


/-- drayage/dock.New$1 -/
theorem badRoom_reads (n : Int) (H : List Ck) : Reads Try.prog 25 [.int .i64 n] H (.bool (badRoom n)) := by
  refine Tells.enter Try.func25 rfl Try.ntmps25 rfl ?_
  intro w0 R
  refine WC.seq ?_
  refine WC.region ?_
  refine WL.y rfl (Yd.assign rfl) ?_
  refine WL.nil ?_
  refine DN.then_normal ?_
  refine WC.seq ?_
  refine WC.region ?_
  refine WL.y rfl (Yd.move rfl) ?_
  refine WL.y rfl (Yd.lss rfl rfl) ?_
  refine WL.y rfl (Yd.move rfl) ?_
  refine WL.partP (t := 5) rfl (fun hg5 => ?_) (fun hg5 => ?_)
  · refine WL.gn (dj := 5) rfl rfl rfl rfl ?_
    refine WL.gn (dj := 5) rfl rfl rfl rfl ?_
    refine WL.y rfl (Yd.pickT rfl rfl) ?_
    refine WL.y rfl (Yd.assign rfl) ?_
    refine WL.nil ?_
    refine DN.then_normal ?_
    refine WC.ret ?_
    refine DN.ret1 Try.results25 rfl ?_
    exact ⟨by simp [badRoom, hg5], rfl⟩
  · refine WL.gy (dj := 5) rfl rfl rfl (Yd.move rfl) ?_
    refine WL.gy (dj := 5) rfl rfl rfl (Yd.gtr rfl rfl) ?_
    refine WL.y rfl (Yd.pickF rfl rfl) ?_
    refine WL.y rfl (Yd.assign rfl) ?_
    refine WL.nil ?_
    refine DN.then_normal ?_
    refine WC.ret ?_
    refine DN.ret1 Try.results25 rfl ?_
    exact ⟨by simp [badRoom, hg5], rfl⟩

/-- slices.IndexFunc[[]int,int] -/
theorem index_reads (v : Value) (rs : List Int) (H : List Ck) (hv : Rs v rs.length (ic rs) H) (hl : rs.length ≤ 9223372036854775807) : Reads Try.prog 33 [v, .func (.func 25) #[] #[]] H (.int .i64 (match rs.findIdx? badRoom with | some i => (i : Int) | none => -1)) := by
  refine Tells.enter Try.func33 rfl Try.ntmps33 rfl ?_
  intro w0 R
  obtain ⟨vo, vc, rfl, hvc⟩ := hv.form
  refine WC.seq ?_
  refine WC.region ?_
  refine WL.y rfl (Yd.assign rfl) ?_
  refine WL.nil ?_
  refine DN.then_normal ?_
  refine WC.seq ?_
  refine WC.seq ?_
  refine WC.region ?_
  refine WL.y rfl (Yd.move rfl) ?_
  refine WL.y rfl (Yd.len (e := 3) (by kernel_rfl) rfl) ?_
  refine WL.y rfl (Yd.move rfl) ?_
  refine WL.nil ?_
  refine DN.then_normal ?_
  refine WC.block ?_
  refine WC.loop (fun i : Nat => i ≤ rs.length ∧ ∀ j, j < i → badRoom (rs.getD j 0) = false) (fun i => [(0, .slice vo rs.length vc), (1, .func (.func 25) #[] #[]), (7, .int .i64 rs.length), (8, .int .i64 i)]) (fun _ => H) (fun i => rs.length - i) 0 ⟨Nat.zero_le _, fun j h => by omega⟩ ⟨rfl, rfl, rfl, rfl, trivial⟩ (List.Perm.refl _) ?_
  rintro i ⟨hi, hno⟩
  refine WC.seq ?_
  refine WC.region ?_
  refine WL.y rfl (Yd.lss rfl rfl) ?_
  refine WL.nil ?_
  refine DN.then_normal ?_
  refine WC.seq ?_
  refine WC.ite rfl (fun h9 => ?_) (fun h9 => ?_)
  · have hlt : i < rs.length := by omega
    refine WC.skip ?_
    refine DN.then_normal ?_
    refine WC.seq ?_
    refine WC.block ?_
    refine WC.seq ?_
    refine WC.region ?_
    refine WL.y rfl (Yd.move rfl) ?_
    refine WL.y rfl (Yd.assign rfl) ?_
    refine WL.nil ?_
    refine DN.then_normal ?_
    refine WC.seq ?_
    refine WC.region ?_
    refine WL.y rfl (Yd.move rfl) ?_
    refine WL.y rfl (Yd.move rfl) ?_
    refine WL.y rfl (Yd.move rfl) ?_
    refine WL.elem (e := 3) (by kernel_rfl) (by kernel_rfl) (by kernel_rfl) rfl rfl (rfl) (hv) (ic_getD hlt) (hlt) rfl rfl ?_
    intro _
    refine WL.r rfl (Ent.val Try.call25 rfl rfl) (badRoom_reads _ _) ?_
    refine WL.nil ?_
    refine DN.then_normal ?_
    refine WC.cond rfl (fun h16 => ?_) (fun h16 => ?_)
    · refine WC.seq ?_
      refine WC.region ?_
      refine WL.y rfl (Yd.move rfl) ?_
      refine WL.y rfl (Yd.assign rfl) ?_
      refine WL.nil ?_
      refine DN.then_normal ?_
      refine WC.ret ?_
      refine DN.block_ret ?_
      refine DN.then_ret ?_
      refine DN.then_ret ?_
      refine DN.block_ret ?_
      refine DN.then_ret ?_
      refine DN.ret1 Try.results33 rfl ?_
      exact ⟨by rw [findIdx_yes rs i hlt h16 hno], rfl⟩
    · refine WC.skip ?_
      refine DN.block_normal ?_
      refine DN.then_normal ?_
      refine WC.region ?_
      refine WL.y rfl (Yd.add rfl rfl (by omega) (by omega)) ?_
      refine WL.y rfl (Yd.move rfl) ?_
      refine WL.nil ?_
      exact DN.again (i + 1) ⟨by omega, fun j hj => by by_cases e : j = i; (subst e; exact h16); exact hno j (by omega)⟩ (by omega) ⟨rfl, rfl, rfl, rfl, trivial⟩ (List.Perm.refl _)
  · refine WC.exit ?_
    refine DN.then_exit ?_
    refine DN.then_exit ?_
    refine DN.block_exit ?_
    refine DN.then_normal ?_
    refine WC.seq ?_
    refine WC.region ?_
    refine WL.y rfl (Yd.assign rfl) ?_
    refine WL.nil ?_
    refine DN.then_normal ?_
    refine WC.ret ?_
    refine DN.ret1 Try.results33 rfl ?_
    exact ⟨by rw [findIdx_no rs (fun j hj => hno j (by omega))], rfl⟩

/-- slices.ContainsFunc[[]int,int] -/
theorem contains_reads (v : Value) (rs : List Int) (H : List Ck) (hv : Rs v rs.length (ic rs) H) (hl : rs.length ≤ 9223372036854775807) : Reads Try.prog 24 [v, .func (.func 25) #[] #[]] H (.bool (rs.findIdx? badRoom).isSome) := by
  refine Tells.enter Try.func24 rfl Try.ntmps24 rfl ?_
  intro w0 R
  refine WC.seq ?_
  refine WC.region ?_
  refine WL.y rfl (Yd.assign rfl) ?_
  refine WL.nil ?_
  refine DN.then_normal ?_
  refine WC.seq ?_
  refine WC.region ?_
  refine WL.y rfl (Yd.move rfl) ?_
  refine WL.y rfl (Yd.move rfl) ?_
  refine WL.r rfl (Ent.func Try.call33 rfl) (index_reads _ rs _ hv hl) ?_
  refine WL.y rfl (Yd.geq rfl rfl) ?_
  refine WL.renamed (t := 8) (v := .bool (rs.findIdx? badRoom).isSome) rfl (congrArg Value.bool (by cases rs.findIdx? badRoom <;> simp)) ?_
  refine WL.y rfl (Yd.assign rfl) ?_
  refine WL.nil ?_
  refine DN.then_normal ?_
  refine WC.ret ?_
  refine DN.ret1 Try.results24 rfl ?_
  exact ⟨rfl, rfl⟩

/-- slices.Clone[[]int,int] -/
theorem clone_tells (v : Value) (rs : List Int) (H : List Ck) (hv : Rs v rs.length (ic rs) H) (hl : rs.length ≤ 1000000) : Tells Try.prog 26 [v] H fun r H' => ∃ C, Own r rs.length (ic rs) 3 1 C ∧ H' = C ++ H := by
  refine Tells.enter Try.func26 rfl Try.ntmps26 rfl ?_
  intro w0 R
  obtain ⟨vo, vc, rfl, hvc⟩ := hv.form
  have hnil : vo = none → rs = [] := by
    rintro rfl
    rcases hv with ⟨_, _, e, h0, _⟩ | ⟨b, o, cap, cs, T, fr, ex, e, _⟩
    · exact List.eq_nil_of_length_eq_zero h0
    · cases e
  refine WC.seq ?_
  refine WC.region ?_
  refine WL.y rfl (Yd.assign rfl) ?_
  refine WL.nil ?_
  refine DN.then_normal ?_
  refine WC.seq ?_
  refine WC.seq ?_
  refine WC.region ?_
  refine WL.y rfl (Yd.move rfl) ?_
  refine WL.y rfl (Yd.eqlNilS Try.underlying22 rfl rfl) ?_
  refine WL.nil ?_
  refine DN.then_normal ?_
  refine WC.cond rfl (fun h4 => ?_) (fun h4 => ?_)
  · refine WC.seq ?_
    refine WC.region ?_
    refine WL.y rfl (Yd.assign rfl) ?_
    refine WL.nil ?_
    refine DN.then_normal ?_
    refine WC.ret ?_
    refine DN.then_ret ?_
    refine DN.ret1 Try.results26 rfl ?_
    have e0 : rs = [] := hnil (by simpa using h4)
    subst e0
    exact ⟨[], Own.nil _ _, rfl⟩
  · refine WC.skip ?_
    refine DN.then_normal ?_
    refine WC.seq ?_
    refine WC.region ?_
    refine WL.h rfl (Hd.buildSlice (e := 3) (sz := 1) (zs := [.int .i64 0]) (parts := []) (vs := []) (cells := []) (by kernel_rfl) (by kernel_rfl) (by kernel_rfl) rfl (by kernel_rfl) (by kernel_rfl) fun rb => ⟨_, rfl, ?_⟩)
    refine WL.y rfl (Yd.move rfl) ?_
    refine WL.h rfl (Hd.append (e := 3) (sz := 1) (bytes := 8) (zs := [.int .i64 0]) (n := 0) (xs := []) (C := [row rb [] 3]) (D := H) (m := rs.length) (news := ic rs) (by kernel_rfl) (by kernel_rfl) rfl (by omega) rfl rfl (.inr ⟨rb, 0, [], rfl, Nat.le_refl _, by simp only [maxLen]; omega, rfl, rfl, rfl⟩) (hv.mono fun y hy => by simp [hy]) (by rw [ic_length]; omega) (ic_one _) (by simp only [maxLen]; omega) (by omega) (List.Perm.refl _) fun v2 C2 h2 _ => ⟨_, rfl, ?_⟩)
    refine WL.y rfl (Yd.assign rfl) ?_
    refine WL.nil ?_
    refine DN.then_normal ?_
    refine WC.ret ?_
    refine DN.ret1 Try.results26 rfl ?_
    exact ⟨C2, by simpa using h2, rfl⟩

/-- drayage/dock.New -/
theorem new_tells (v : Value) (rs : List Int) (H : List Ck) (hv : Rs v rs.length (ic rs) H) (hl : rs.length ≤ 9223372036854775807) : Tells Try.prog 10 [v] H fun r H' => if (rs.findIdx? badRoom).isSome = false ∧ rs.length ≤ 60 then ∃ p C, r = .tuple #[.pointer (some ⟨p, 0, none⟩), .int .i64 0] ∧ DockAt 55 3 p rs [] C ∧ H' = C ++ H else r = .tuple #[.pointer none, .int .i64 2] ∧ H' = H := by
  refine Tells.enter Try.func10 rfl Try.ntmps10 rfl ?_
  intro w0 R
  obtain ⟨vo, vc, rfl, hvc⟩ := hv.form
  refine WC.seq ?_
  refine WC.region ?_
  refine WL.y rfl (Yd.assign rfl) ?_
  refine WL.y rfl (Yd.assign rfl) ?_
  refine WL.nil ?_
  refine DN.then_normal ?_
  refine WC.seq ?_
  refine WC.region ?_
  refine WL.y rfl (Yd.move rfl) ?_
  refine WL.r rfl (Ent.func Try.call24 rfl) (contains_reads _ rs _ hv hl) ?_
  refine WL.y rfl (Yd.assign rfl) ?_
  refine WL.nil ?_
  refine DN.then_normal ?_
  refine WC.seq ?_
  refine WC.seq ?_
  refine WC.region ?_
  refine WL.y rfl (Yd.move rfl) ?_
  refine WL.y rfl (Yd.move rfl) ?_
  refine WL.part (t := 8) rfl (fun hg8 => ?_) (fun hg8 => ?_)
  · refine WL.gn (dj := 8) rfl rfl rfl rfl ?_
    refine WL.gn (dj := 8) rfl rfl rfl rfl ?_
    refine WL.gn (dj := 8) rfl rfl rfl rfl ?_
    refine WL.y rfl (Yd.pickT rfl rfl) ?_
    refine WL.nil ?_
    refine DN.then_normal ?_
    refine WC.yes rfl ?_
    refine WC.seq ?_
    refine WC.region ?_
    refine WL.y rfl (Yd.assign rfl) ?_
    refine WL.y rfl (Yd.assign rfl) ?_
    refine WL.nil ?_
    refine DN.then_normal ?_
    refine WC.ret ?_
    refine DN.then_ret ?_
    refine DN.ret2 Try.results10 rfl rfl ?_
    rw [if_neg (by rw [hg8]; simp)]
    exact ⟨rfl, rfl⟩
  · refine WL.gy (dj := 8) rfl rfl rfl (Yd.move rfl) ?_
    refine WL.gy (dj := 8) rfl rfl rfl (Yd.len (e := 3) (by kernel_rfl) rfl) ?_
    refine WL.gy (dj := 8) rfl rfl rfl (Yd.gtr rfl rfl) ?_
    refine WL.y rfl (Yd.pickF rfl rfl) ?_
    refine WL.nil ?_
    refine DN.then_normal ?_
    refine WC.ite rfl (fun h12 => ?_) (fun h12 => ?_)
    · refine WC.seq ?_
      refine WC.region ?_
      refine WL.y rfl (Yd.assign rfl) ?_
      refine WL.y rfl (Yd.assign rfl) ?_
      refine WL.nil ?_
      refine DN.then_normal ?_
      refine WC.ret ?_
      refine DN.then_ret ?_
      refine DN.ret2 Try.results10 rfl rfl ?_
      rw [if_neg (by omega)]
      exact ⟨rfl, rfl⟩
    · refine WC.skip ?_
      refine DN.then_normal ?_
      refine WC.seq ?_
      refine WC.region ?_
      refine WL.y rfl (Yd.move rfl) ?_
      refine WL.ca rfl (Ent.func Try.call26 rfl) (clone_tells _ rs _ hv (by omega)) ?_
      rintro x H1 ⟨Cr, hr, rfl⟩
      obtain ⟨xo, xc, rfl, hxc⟩ := hr.form
      refine WL.h rfl (Hd.makeMap (kd := .u32) fun bm Cm hCm => ⟨_, rfl, ?_⟩)
      refine WL.y rfl (Yd.build (pl := [(0, 1), (1, 1)]) (zs := [.slice none 0 0, .map none]) (parts := [(0, .tmp 14), (1, .tmp 15)]) (vs := [(0, .slice xo rs.length xc), (1, .map (some bm))]) (cells := [.slice xo rs.length xc, .map (some bm)]) (by kernel_rfl) (by kernel_rfl) rfl rfl) ?_
      refine WL.h rfl (Hd.box rfl fun p => ⟨_, rfl, ?_⟩)
      refine WL.y rfl (Yd.assign rfl) ?_
      refine WL.y rfl (Yd.assign rfl) ?_
      refine WL.nil ?_
      refine DN.then_normal ?_
      refine WC.ret ?_
      refine DN.blocks ((row p [.slice xo rs.length xc, .map (some bm)] 55 :: (Cr ++ Cm)) ++ H) (show (row p [.slice xo rs.length xc, .map (some bm)] 55 :: (Cm ++ (Cr ++ H))).Perm ((row p [.slice xo rs.length xc, .map (some bm)] 55 :: (Cr ++ Cm)) ++ H) from (by classical exact List.perm_iff_count.2 fun q => by simp only [List.count_append, List.count_cons, List.count_nil]; omega)) ?_
      refine DN.ret2 Try.results10 rfl rfl ?_
      rw [if_pos ⟨hg8, by omega⟩]
      exact ⟨p, _, rfl, ⟨_, Cr, bm, Cm, rfl, hr, hCm, by simp⟩, rfl⟩

/-- (*drayage/dock.Dock).Room -/
theorem room_reads (p : Nat) (rs : List Int) (L : List Bk) (C : List Ck) (h : DockAt 55 3 p rs L C) (day : Int) : Reads Try.prog 15 [.pointer (some ⟨p, 0, none⟩), .int .i64 day] C (.int .i64 (roomOf rs day)) := by
  refine Tells.enter Try.func15 rfl Try.ntmps15 rfl ?_
  intro w0 R
  obtain ⟨vr, Cr, bm, Cm, rfl, hvr, hm, hnd⟩ := h
  obtain ⟨xo, xc, rfl, hxc⟩ := hvr.form
  refine WC.seq ?_
  refine WC.region ?_
  refine WL.y rfl (Yd.assign rfl) ?_
  refine WL.nil ?_
  refine DN.then_normal ?_
  refine WC.seq ?_
  refine WC.seq ?_
  refine WC.region ?_
  refine WL.y rfl (Yd.move rfl) ?_
  refine WL.y rfl (Yd.eqlNil Try.underlying26 rfl rfl) ?_
  refine WL.renamed (t := 6) (v := .bool false) rfl (congrArg Value.bool (rfl)) ?_
  refine WL.y rfl (Yd.move rfl) ?_
  refine WL.gy (dj := 7) rfl rfl rfl (Yd.move rfl) ?_
  refine WL.gy (dj := 7) rfl rfl rfl (Yd.lss rfl rfl) ?_
  refine WL.y rfl (Yd.pickF rfl rfl) ?_
  refine WL.y rfl (Yd.move rfl) ?_
  refine WL.partP (t := 11) rfl (fun hg11 => ?_) (fun hg11 => ?_)
  · refine WL.gn (dj := 11) rfl rfl rfl rfl ?_
    refine WL.gn (dj := 11) rfl rfl rfl rfl ?_
    refine WL.gn (dj := 11) rfl rfl rfl rfl ?_
    refine WL.gn (dj := 11) rfl rfl rfl rfl ?_
    refine WL.gn (dj := 11) rfl rfl rfl rfl ?_
    refine WL.gn (dj := 11) rfl rfl rfl rfl ?_
    refine WL.gn (dj := 11) rfl rfl rfl rfl ?_
    refine WL.y rfl (Yd.pickT rfl rfl) ?_
    refine WL.nil ?_
    refine DN.then_normal ?_
    refine WC.yes rfl ?_
    refine WC.seq ?_
    refine WC.region ?_
    refine WL.y rfl (Yd.assign rfl) ?_
    refine WL.nil ?_
    refine DN.then_normal ?_
    refine WC.ret ?_
    refine DN.then_ret ?_
    refine DN.ret1 Try.results15 rfl ?_
    exact ⟨by rw [roomOf, if_neg (by omega)], rfl⟩
  · refine WL.gy (dj := 11) rfl rfl rfl (Yd.move rfl) ?_
    refine WL.gy (dj := 11) rfl rfl rfl (Yd.move rfl) ?_
    refine WL.gy (dj := 11) rfl rfl rfl (Yd.notNil rfl) ?_
    refine WL.gy (dj := 11) rfl rfl rfl (Yd.fieldAddr (k := 0) (by kernel_rfl) rfl) ?_
    refine WL.gh (dj := 11) rfl rfl rfl (Hd.load1 (v := .slice xo rs.length xc) (b := p) (cs := [.slice xo rs.length xc, .map (some bm)]) (by kernel_rfl) rfl List.mem_cons_self rfl ⟨_, rfl, ?_⟩)
    refine WL.gy (dj := 11) rfl rfl rfl (Yd.len (e := 3) (by kernel_rfl) rfl) ?_
    refine WL.gy (dj := 11) rfl rfl rfl (Yd.geq rfl rfl) ?_
    refine WL.y rfl (Yd.pickF rfl rfl) ?_
    refine WL.nil ?_
    refine DN.then_normal ?_
    refine WC.ite rfl (fun h19 => ?_) (fun h19 => ?_)
    · refine WC.seq ?_
      refine WC.region ?_
      refine WL.y rfl (Yd.assign rfl) ?_
      refine WL.nil ?_
      refine DN.then_normal ?_
      refine WC.ret ?_
      refine DN.then_ret ?_
      refine DN.ret1 Try.results15 rfl ?_
      exact ⟨by rw [roomOf, if_neg (by omega)], rfl⟩
    · obtain ⟨k, rfl⟩ : ∃ k : Nat, day = k := ⟨day.toNat, by omega⟩
      have hk : k < rs.length := by omega
      refine WC.skip ?_
      refine DN.then_normal ?_
      refine WC.seq ?_
      refine WC.region ?_
      refine WL.y rfl (Yd.move rfl) ?_
      refine WL.y rfl (Yd.notNil rfl) ?_
      refine WL.y rfl (Yd.fieldAddr (k := 0) (by kernel_rfl) rfl) ?_
      refine WL.h rfl (Hd.load1 (v := .slice xo rs.length xc) (b := p) (cs := [.slice xo rs.length xc, .map (some bm)]) (by kernel_rfl) rfl List.mem_cons_self rfl ⟨_, rfl, ?_⟩)
      refine WL.y rfl (Yd.move rfl) ?_
      refine WL.elem (e := 3) (by kernel_rfl) (by kernel_rfl) (by kernel_rfl) rfl rfl (rfl) (hvr.rs.mono fun y hy => by simp [hy]) (ic_getD hk) (hk) rfl rfl ?_
      intro _
      refine WL.y rfl (Yd.assign rfl) ?_
      refine WL.nil ?_
      refine DN.then_normal ?_
      refine WC.ret ?_
      refine DN.ret1 Try.results15 rfl ?_
      exact ⟨by rw [roomOf, if_pos (by omega)]; rfl, rfl⟩

/-- (*drayage/dock.Dock).Book -/
theorem book_tells (p : Nat) (rs : List Int) (L : List Bk) (C : List Ck) (h : DockAt 55 3 p rs L C) (hok : RoomsOk rs) (hl : rs.length ≤ 1000000) (o : BitVec 32) (from_ n : Int) : Tells Try.prog 14 [.pointer (some ⟨p, 0, none⟩), .int .u32 o.toNat, .int .i64 from_, .int .i64 n] C fun r H' => match bookOf rs L o from_ n with | none => r = .tuple #[.int .i64 0, .int .i64 2] ∧ H' = C | some d => r = .tuple #[.int .i64 d, .int .i64 1] ∧ DockAt 55 3 p (rs.set d (rs.getD d 0 - n)) (L ++ [⟨o, d, n⟩]) H' := by
  refine Tells.enter Try.func14 rfl Try.ntmps14 rfl ?_
  intro w0 R
  obtain ⟨vr, Cr, bm, Cm, rfl, hvr, hm, hnd⟩ := h
  obtain ⟨xo, xc, rfl, hxc⟩ := hvr.form
  refine WC.seq ?_
  refine WC.region ?_
  refine WL.y rfl (Yd.assign rfl) ?_
  refine WL.y rfl (Yd.assign rfl) ?_
  refine WL.nil ?_
  refine DN.then_normal ?_
  refine WC.seq ?_
  refine WC.seq ?_
  refine WC.region ?_
  refine WL.y rfl (Yd.move rfl) ?_
  refine WL.y rfl (Yd.eqlNil Try.underlying26 rfl rfl) ?_
  refine WL.renamed (t := 15) (v := .bool false) rfl (congrArg Value.bool (rfl)) ?_
  refine WL.y rfl (Yd.move rfl) ?_
  refine WL.gy (dj := 16) rfl rfl rfl (Yd.move rfl) ?_
  refine WL.gy (dj := 16) rfl rfl rfl (Yd.eql32 _ (0#32) rfl rfl rfl rfl) ?_
  refine WL.y rfl (Yd.pickF rfl rfl) ?_
  refine WL.y rfl (Yd.move rfl) ?_
  refine WL.partP (t := 20) rfl (fun hg20 => ?_) (fun hg20 => ?_)
  · refine WL.gn (dj := 20) rfl rfl rfl rfl ?_
    refine WL.gn (dj := 20) rfl rfl rfl rfl ?_
    refine WL.y rfl (Yd.pickT rfl rfl) ?_
    refine WL.y rfl (Yd.move rfl) ?_
    refine WL.gn (dj := 24) rfl rfl rfl rfl ?_
    refine WL.gn (dj := 24) rfl rfl rfl rfl ?_
    refine WL.y rfl (Yd.pickT rfl rfl) ?_
    refine WL.nil ?_
    refine DN.then_normal ?_
    refine WC.yes rfl ?_
    refine WC.seq ?_
    refine WC.region ?_
    refine WL.y rfl (Yd.assign rfl) ?_
    refine WL.y rfl (Yd.assign rfl) ?_
    refine WL.nil ?_
    refine DN.then_normal ?_
    refine WC.ret ?_
    refine DN.then_ret ?_
    refine DN.ret2 Try.results14 rfl rfl ?_
    have hb : bookOf rs L o from_ n = none := by rw [bookOf, if_pos (.inl hg20)]
    rw [hb]
    exact ⟨rfl, rfl⟩
  · refine WL.gy (dj := 20) rfl rfl rfl (Yd.move rfl) ?_
    refine WL.gy (dj := 20) rfl rfl rfl (Yd.lss rfl rfl) ?_
    refine WL.y rfl (Yd.pickF rfl rfl) ?_
    refine WL.y rfl (Yd.move rfl) ?_
    refine WL.partP (t := 24) rfl (fun hg24 => ?_) (fun hg24 => ?_)
    · refine WL.gn (dj := 24) rfl rfl rfl rfl ?_
      refine WL.gn (dj := 24) rfl rfl rfl rfl ?_
      refine WL.y rfl (Yd.pickT rfl rfl) ?_
      refine WL.nil ?_
      refine DN.then_normal ?_
      refine WC.yes rfl ?_
      refine WC.seq ?_
      refine WC.region ?_
      refine WL.y rfl (Yd.assign rfl) ?_
      refine WL.y rfl (Yd.assign rfl) ?_
      refine WL.nil ?_
      refine DN.then_normal ?_
      refine WC.ret ?_
      refine DN.then_ret ?_
      refine DN.ret2 Try.results14 rfl rfl ?_
      have hb : bookOf rs L o from_ n = none := by rw [bookOf, if_pos (.inr (.inl hg24))]
      rw [hb]
      exact ⟨rfl, rfl⟩
    · refine WL.gy (dj := 24) rfl rfl rfl (Yd.move rfl) ?_
      refine WL.gy (dj := 24) rfl rfl rfl (Yd.lss rfl rfl) ?_
      refine WL.y rfl (Yd.pickF rfl rfl) ?_
      refine WL.nil ?_
      refine DN.then_normal ?_
      refine WC.ite rfl (fun h27 => ?_) (fun h27 => ?_)
      · refine WC.seq ?_
        refine WC.region ?_
        refine WL.y rfl (Yd.assign rfl) ?_
        refine WL.y rfl (Yd.assign rfl) ?_
        refine WL.nil ?_
        refine DN.then_normal ?_
        refine WC.ret ?_
        refine DN.then_ret ?_
        refine DN.ret2 Try.results14 rfl rfl ?_
        have hb : bookOf rs L o from_ n = none := by rw [bookOf, if_pos (.inr (.inr (.inl h27)))]
        rw [hb]
        exact ⟨rfl, rfl⟩
      · refine WC.skip ?_
        refine DN.then_normal ?_
        refine WC.seq ?_
        refine WC.seq ?_
        refine WC.region ?_
        refine WL.y rfl (Yd.move rfl) ?_
        refine WL.y rfl (Yd.notNil rfl) ?_
        refine WL.y rfl (Yd.fieldAddr (k := 1) (by kernel_rfl) rfl) ?_
        refine WL.h rfl (Hd.load1 (v := .map (some bm)) (b := p) (cs := [.slice xo rs.length xc, .map (some bm)]) (by kernel_rfl) rfl (by first | exact List.mem_cons_self | exact List.mem_cons_of_mem _ List.mem_cons_self) rfl ⟨_, rfl, ?_⟩)
        refine WL.y rfl (Yd.move rfl) ?_
        refine WL.h rfl (Hd.lookup2 (KT := 24) (ET := 47) (kt := .u32) (z := .agg #[.int .u32 0, .int .i64 0, .int .i64 0]) (C := Cm) (D := row p [.slice xo rs.length xc, .map (some bm)] 55 :: Cr) (by kernel_rfl) (by kernel_rfl) (by kernel_rfl) rfl rfl hm (by classical exact List.perm_iff_count.2 fun q => by simp only [List.count_append, List.count_cons, List.count_nil]; omega) ⟨_, rfl, ?_⟩)
        refine WL.y rfl (Yd.move rfl) ?_
        rw [getD_val, isSome_val]
        obtain ⟨e10, he10⟩ : ∃ e, e = (findB L o).getD ⟨0#32, 0, 0⟩ := ⟨_, rfl⟩
        rw [← he10]
        refine WL.y rfl (Yd.extract rfl rfl) ?_
        refine WL.y rfl (Yd.extract rfl rfl) ?_
        refine WL.h rfl (Hd.alloc (zs := [.int .u32 0, .int .i64 0, .int .i64 0]) (by kernel_rfl) fun b10 => ⟨_, rfl, ?_⟩)
        refine WL.s (Hd.storeN (n := 3) (b := b10) (cs := [.int .u32 0, .int .i64 0, .int .i64 0]) (T' := 47) (v := e10.val) (D := row p [.slice xo rs.length xc, .map (some bm)] 55 :: (Cr ++ Cm)) (by kernel_rfl) rfl rfl rfl (by simp [Bk.val, Value.cells, Value.oneCell']) (List.Perm.refl _) (by simp) ⟨rfl, ?_⟩)
        refine WL.y rfl (Yd.assign rfl) ?_
        refine WL.nil ?_
        refine DN.then_normal ?_
        refine WC.seq ?_
        refine WC.region ?_
        refine WL.y rfl (Yd.move rfl) ?_
        refine WL.nil ?_
        refine DN.then_normal ?_
        refine WC.cond rfl (fun h37 => ?_) (fun h37 => ?_)
        · refine WC.seq ?_
          refine WC.region ?_
          refine WL.y rfl (Yd.assign rfl) ?_
          refine WL.y rfl (Yd.assign rfl) ?_
          refine WL.nil ?_
          refine DN.then_normal ?_
          refine WC.ret ?_
          refine DN.then_ret ?_
          refine DN.forget (row p [.slice xo rs.length xc, .map (some bm)] 55 :: (Cr ++ Cm)) (List.sublist_cons_self _ _) ?_
          refine DN.ret2 Try.results14 rfl rfl ?_
          have hb : bookOf rs L o from_ n = none := by rw [bookOf, if_pos (.inr (.inr (.inr h37)))]
          rw [hb]
          exact ⟨rfl, rfl⟩
        · have hnone : findB L o = none := by simpa using h37
          have hfresh : getM (bks L) (o.toNat : Int) = none := by rw [getM_bks, hnone]; rfl
          refine WC.skip ?_
          refine DN.then_normal ?_
          refine WC.seq ?_
          refine WC.seq ?_
          refine WC.region ?_
          refine WL.y rfl (Yd.move rfl) ?_
          refine WL.y rfl (Yd.notNil rfl) ?_
          refine WL.y rfl (Yd.fieldAddr (k := 0) (by kernel_rfl) rfl) ?_
          refine WL.h rfl (Hd.load1 (v := .slice xo rs.length xc) (b := p) (cs := [.slice xo rs.length xc, .map (some bm)]) (by kernel_rfl) rfl (by first | exact List.mem_cons_self | exact List.mem_cons_of_mem _ List.mem_cons_self) rfl ⟨_, rfl, ?_⟩)
          refine WL.y rfl (Yd.len (e := 3) (by kernel_rfl) rfl) ?_
          refine WL.y rfl (Yd.move rfl) ?_
          refine WL.nil ?_
          refine DN.then_normal ?_
          refine WC.block ?_
          refine WC.loop (fun i : Nat => i ≤ rs.length ∧ ∀ j, j < i → ¬ (from_ ≤ (j : Int) ∧ n ≤ rs.getD j 0)) (fun i => [(0, .pointer (some ⟨p, 0, none⟩)), (1, .int .u32 o.toNat), (2, .int .i64 from_), (3, .int .i64 n), (41, .slice xo rs.length xc), (42, .int .i64 rs.length), (43, .int .i64 i)]) (fun _ => row b10 (splice [.int .u32 0, .int .i64 0, .int .i64 0] 0 e10.val.cells.toList) 47 :: row p [.slice xo rs.length xc, .map (some bm)] 55 :: (Cr ++ Cm)) (fun i => rs.length - i) 0 ⟨Nat.zero_le _, fun j h => by omega⟩ ⟨rfl, rfl, rfl, rfl, rfl, rfl, rfl, trivial⟩ (List.Perm.refl _) ?_
          rintro i ⟨hi, hno⟩
          refine WC.seq ?_
          refine WC.region ?_
          refine WL.y rfl (Yd.lss rfl rfl) ?_
          refine WL.nil ?_
          refine DN.then_normal ?_
          refine WC.seq ?_
          refine WC.ite rfl (fun h44 => ?_) (fun h44 => ?_)
          · have hlt : i < rs.length := by omega
            have hri := hok i
            refine WC.skip ?_
            refine DN.then_normal ?_
            refine WC.seq ?_
            refine WC.block ?_
            refine WC.seq ?_
            refine WC.region ?_
            refine WL.y rfl (Yd.move rfl) ?_
            refine WL.elem (e := 3) (by kernel_rfl) (by kernel_rfl) (by kernel_rfl) rfl rfl (rfl) (hvr.rs.mono fun y hy => by simp [hy]) (ic_getD hlt) (hlt) rfl rfl ?_
            intro _
            refine WL.y rfl (Yd.assign rfl) ?_
            refine WL.y rfl (Yd.assign rfl) ?_
            refine WL.nil ?_
            refine DN.then_normal ?_
            refine WC.seq ?_
            refine WC.region ?_
            refine WL.y rfl (Yd.move rfl) ?_
            refine WL.y rfl (Yd.move rfl) ?_
            refine WL.y rfl (Yd.geq rfl rfl) ?_
            refine WL.y rfl (Yd.move rfl) ?_
            refine WL.partP (t := 51) rfl (fun hg51 => ?_) (fun hg51 => ?_)
            · refine WL.gy (dj := 51) rfl rfl rfl (Yd.move rfl) ?_
              refine WL.gy (dj := 51) rfl rfl rfl (Yd.move rfl) ?_
              refine WL.gy (dj := 51) rfl rfl rfl (Yd.geq rfl rfl) ?_
              refine WL.y rfl (Yd.pickT rfl rfl) ?_
              refine WL.nil ?_
              refine DN.then_normal ?_
              refine WC.ite rfl (fun h55 => ?_) (fun h55 => ?_)
              · rcases hvr with ⟨_, h0, _⟩ | ⟨br, cap, extra, he, hc1, hc2, hx1, hx2, hCr⟩
                · omega
                simp only [Value.slice.injEq] at he
                obtain ⟨rfl, _, rfl⟩ := he
                subst hCr
                obtain ⟨Q, hQ⟩ : ∃ Q, Q = [row b10 (splice [.int .u32 0, .int .i64 0, .int .i64 0] 0 e10.val.cells.toList) 47, row p [.slice (some ⟨br, 0, none⟩) rs.length xc, .map (some bm)] 55] := ⟨_, rfl⟩
                have hday : dayOf rs from_ n = some i := dayOf_yes rs from_ n i hlt (by omega) (by omega) hno
                refine WC.seq ?_
                refine WC.region ?_
                refine WL.y rfl (Yd.move rfl) ?_
                refine WL.y rfl (Yd.notNil rfl) ?_
                refine WL.y rfl (Yd.fieldAddr (k := 0) (by kernel_rfl) rfl) ?_
                refine WL.h rfl (Hd.load1 (v := .slice (some ⟨br, 0, none⟩) rs.length xc) (b := p) (cs := [.slice (some ⟨br, 0, none⟩) rs.length xc, .map (some bm)]) (by kernel_rfl) rfl (by first | exact List.mem_cons_self | exact List.mem_cons_of_mem _ List.mem_cons_self) rfl ⟨_, rfl, ?_⟩)
                refine WL.y rfl (Yd.move rfl) ?_
                refine WL.elem (e := 3) (by kernel_rfl) (by kernel_rfl) (by kernel_rfl) rfl rfl (rfl) (((show Own (.slice (some ⟨br, 0, none⟩) rs.length xc) rs.length (ic rs) 3 1 [row br (ic rs ++ extra) 3] from .inr ⟨br, xc, extra, rfl, hc1, hc2, hx1, hx2, rfl⟩).rs.mono fun y hy => by rw [List.mem_singleton.1 hy]; simp)) (ic_getD hlt) (hlt) rfl rfl ?_
                intro _
                refine WL.y rfl (Yd.move rfl) ?_
                refine WL.y rfl (Yd.sub rfl rfl (by omega) (by omega)) ?_
                refine WL.y rfl (Yd.indexAddr (e := 3) (s := 1) (by kernel_rfl) (by kernel_rfl) rfl rfl (by omega) (by omega)) ?_
                refine WL.s (Hd.store1 (b := br) (cs := ic rs ++ extra) (T' := 3) (D := Q ++ Cm) (by kernel_rfl) rfl rfl rfl (by rw [hQ]; exact (by classical exact List.perm_iff_count.2 fun q => by simp only [List.count_append, List.count_cons, List.count_nil]; omega)) (by simp [ic_length]; omega) ⟨rfl, ?_⟩)
                refine WL.nil ?_
                refine DN.then_normal ?_
                refine WC.seq ?_
                refine WC.region ?_
                refine WL.y rfl (Yd.move rfl) ?_
                refine WL.y rfl (Yd.notNil rfl) ?_
                refine WL.y rfl (Yd.fieldAddr (k := 1) (by kernel_rfl) rfl) ?_
                refine WL.h rfl (Hd.load1 (v := .map (some bm)) (b := p) (cs := [.slice (some ⟨br, 0, none⟩) rs.length xc, .map (some bm)]) (by kernel_rfl) rfl (List.mem_cons_of_mem _ (List.mem_append_left _ (by rw [hQ]; exact List.mem_cons_of_mem _ List.mem_cons_self))) rfl ⟨_, rfl, ?_⟩)
                refine WL.y rfl (Yd.move rfl) ?_
                refine WL.y rfl (Yd.move rfl) ?_
                refine WL.y rfl (Yd.move rfl) ?_
                refine WL.y rfl (Yd.move rfl) ?_
                refine WL.y rfl (Yd.build (pl := [(0, 1), (1, 1), (2, 1)]) (zs := [.int .u32 0, .int .i64 0, .int .i64 0]) (parts := [(0, .tmp 71), (1, .tmp 72), (2, .tmp 73)]) (vs := [(0, .int .u32 o.toNat), (1, .int .i64 i), (2, .int .i64 n)]) (cells := [.int .u32 o.toNat, .int .i64 i, .int .i64 n]) (by kernel_rfl) (by kernel_rfl) rfl rfl) ?_
                refine WL.s (Hd.mapNew (KT := 24) (ET := 47) (kt := .u32) (C := Cm) (D := row br ((ic rs ++ extra).set (0 + (i : Int).toNat * 1) (.int .i64 (rs.getD i 0 - n))) 3 :: Q) (by kernel_rfl) (by kernel_rfl) rfl rfl rfl hm hfresh (by classical exact List.perm_iff_count.2 fun q => by simp only [List.count_append, List.count_cons, List.count_nil]; omega) fun Cm2 hm2 => ⟨rfl, ?_⟩)
                refine WL.nil ?_
                refine DN.then_normal ?_
                refine WC.seq ?_
                refine WC.region ?_
                refine WL.y rfl (Yd.move rfl) ?_
                refine WL.y rfl (Yd.assign rfl) ?_
                refine WL.y rfl (Yd.assign rfl) ?_
                refine WL.nil ?_
                refine DN.then_normal ?_
                refine WC.ret ?_
                refine DN.block_ret ?_
                refine DN.then_ret ?_
                refine DN.then_ret ?_
                refine DN.block_ret ?_
                refine DN.then_ret ?_
                refine DN.blocks (row b10 (splice [.int .u32 0, .int .i64 0, .int .i64 0] 0 e10.val.cells.toList) 47 :: (row p [.slice (some ⟨br, 0, none⟩) rs.length xc, .map (some bm)] 55 :: ([row br (ic (rs.set i (rs.getD i 0 - n)) ++ extra) 3] ++ Cm2))) (by rw [hQ, show 0 + (i : Int).toNat * 1 = i by omega, set_front _ _ _ _ (by rw [ic_length]; omega), ic_set]; exact (by classical exact List.perm_iff_count.2 fun q => by simp only [List.count_append, List.count_cons, List.count_nil]; omega)) ?_
                refine DN.forget _ (List.sublist_cons_self _ _) ?_
                refine DN.ret2 Try.results14 rfl rfl ?_
                have hb : bookOf rs L o from_ n = some i := by rw [bookOf, if_neg (by rintro (h | h | h | h); exact hg20 h; omega; omega; rw [hnone] at h; cases h)]; exact hday
                rw [hb]
                refine ⟨rfl, _, [row br (ic (rs.set i (rs.getD i 0 - n)) ++ extra) 3], bm, Cm2, rfl, .inr ⟨br, xc, extra, by simp, by simpa using hc1, hc2, by simp [ic_length], by simpa using hx2, rfl⟩, ?_, nodup_snoc hnd hnone⟩
                rw [← bks_snoc]
                exact hm2
              · refine WC.skip ?_
                refine DN.block_normal ?_
                refine DN.then_normal ?_
                refine WC.region ?_
                refine WL.y rfl (Yd.add rfl rfl (by omega) (by omega)) ?_
                refine WL.y rfl (Yd.move rfl) ?_
                refine WL.nil ?_
                exact DN.again (i + 1) ⟨by omega, fun j hj => by by_cases e : j = i; (subst e; omega); exact hno j (by omega)⟩ (by omega) ⟨rfl, rfl, rfl, rfl, rfl, rfl, rfl, trivial⟩ (List.Perm.refl _)
            · refine WL.gn (dj := 51) rfl rfl rfl rfl ?_
              refine WL.gn (dj := 51) rfl rfl rfl rfl ?_
              refine WL.gn (dj := 51) rfl rfl rfl rfl ?_
              refine WL.y rfl (Yd.pickF rfl rfl) ?_
              refine WL.nil ?_
              refine DN.then_normal ?_
              refine WC.no rfl ?_
              refine WC.skip ?_
              refine DN.block_normal ?_
              refine DN.then_normal ?_
              refine WC.region ?_
              refine WL.y rfl (Yd.add rfl rfl (by omega) (by omega)) ?_
              refine WL.y rfl (Yd.move rfl) ?_
              refine WL.nil ?_
              exact DN.again (i + 1) ⟨by omega, fun j hj => by by_cases e : j = i; (subst e; omega); exact hno j (by omega)⟩ (by omega) ⟨rfl, rfl, rfl, rfl, rfl, rfl, rfl, trivial⟩ (List.Perm.refl _)
          · refine WC.exit ?_
            refine DN.then_exit ?_
            refine DN.then_exit ?_
            refine DN.block_exit ?_
            refine DN.then_normal ?_
            refine WC.seq ?_
            refine WC.region ?_
            refine WL.y rfl (Yd.assign rfl) ?_
            refine WL.y rfl (Yd.assign rfl) ?_
            refine WL.nil ?_
            refine DN.then_normal ?_
            refine WC.ret ?_
            refine DN.forget (row p [.slice xo rs.length xc, .map (some bm)] 55 :: (Cr ++ Cm)) (List.sublist_cons_self _ _) ?_
            refine DN.ret2 Try.results14 rfl rfl ?_
            have hb : bookOf rs L o from_ n = none := by rw [bookOf, if_neg (by rintro (h | h | h | h); exact hg20 h; omega; omega; rw [hnone] at h; cases h)]; exact dayOf_no rs from_ n (fun j hj => hno j (by omega))
            rw [hb]
            exact ⟨rfl, rfl⟩

/-- (*drayage/dock.Dock).Cancel -/
theorem cancel_tells (p : Nat) (rs : List Int) (L : List Bk) (C : List Ck) (h : DockAt 55 3 p rs L C) (o : BitVec 32) (hb : ∀ b, findB L o = some b → b.day < rs.length ∧ -9223372036854775808 ≤ rs.getD b.day 0 + b.n ∧ rs.getD b.day 0 + b.n ≤ 9223372036854775807) : Tells Try.prog 12 [.pointer (some ⟨p, 0, none⟩), .int .u32 o.toNat] C fun r H' => match findB L o with | none => r = .int .i64 2 ∧ H' = C | some b => r = .int .i64 1 ∧ DockAt 55 3 p (rs.set b.day (rs.getD b.day 0 + b.n)) (delB L o) H' := by
  refine Tells.enter Try.func12 rfl Try.ntmps12 rfl ?_
  intro w0 R
  obtain ⟨vr, Cr, bm, Cm, rfl, hvr, hm, hnd⟩ := h
  obtain ⟨xo, xc, rfl, hxc⟩ := hvr.form
  refine WC.seq ?_
  refine WC.region ?_
  refine WL.y rfl (Yd.assign rfl) ?_
  refine WL.nil ?_
  refine DN.then_normal ?_
  refine WC.seq ?_
  refine WC.seq ?_
  refine WC.region ?_
  refine WL.y rfl (Yd.move rfl) ?_
  refine WL.y rfl (Yd.eqlNil Try.underlying26 rfl rfl) ?_
  refine WL.renamed (t := 8) (v := .bool false) rfl (congrArg Value.bool (rfl)) ?_
  refine WL.nil ?_
  refine DN.then_normal ?_
  refine WC.no rfl ?_
  refine WC.skip ?_
  refine DN.then_normal ?_
  refine WC.seq ?_
  refine WC.region ?_
  refine WL.y rfl (Yd.move rfl) ?_
  refine WL.y rfl (Yd.notNil rfl) ?_
  refine WL.y rfl (Yd.fieldAddr (k := 1) (by kernel_rfl) rfl) ?_
  refine WL.h rfl (Hd.load1 (v := .map (some bm)) (b := p) (cs := [.slice xo rs.length xc, .map (some bm)]) (by kernel_rfl) rfl (by first | exact List.mem_cons_self | exact List.mem_cons_of_mem _ List.mem_cons_self) rfl ⟨_, rfl, ?_⟩)
  refine WL.y rfl (Yd.move rfl) ?_
  refine WL.h rfl (Hd.lookup2 (KT := 24) (ET := 47) (kt := .u32) (z := .agg #[.int .u32 0, .int .i64 0, .int .i64 0]) (C := Cm) (D := row p [.slice xo rs.length xc, .map (some bm)] 55 :: Cr) (by kernel_rfl) (by kernel_rfl) (by kernel_rfl) rfl rfl hm (by classical exact List.perm_iff_count.2 fun q => by simp only [List.count_append, List.count_cons, List.count_nil]; omega) ⟨_, rfl, ?_⟩)
  refine WL.y rfl (Yd.move rfl) ?_
  rw [getD_val, isSome_val]
  obtain ⟨e10, he10⟩ : ∃ e, e = (findB L o).getD ⟨0#32, 0, 0⟩ := ⟨_, rfl⟩
  rw [← he10]
  refine WL.y rfl (Yd.extract rfl rfl) ?_
  refine WL.y rfl (Yd.extract rfl rfl) ?_
  refine WL.h rfl (Hd.alloc (zs := [.int .u32 0, .int .i64 0, .int .i64 0]) (by kernel_rfl) fun b5 => ⟨_, rfl, ?_⟩)
  refine WL.s (Hd.storeN (n := 3) (b := b5) (cs := [.int .u32 0, .int .i64 0, .int .i64 0]) (T' := 47) (v := e10.val) (D := row p [.slice xo rs.length xc, .map (some bm)] 55 :: (Cr ++ Cm)) (by kernel_rfl) rfl rfl rfl (by simp [Bk.val, Value.cells, Value.oneCell']) (List.Perm.refl _) (by simp) ⟨rfl, ?_⟩)
  refine WL.y rfl (Yd.assign rfl) ?_
  refine WL.nil ?_
  refine DN.then_normal ?_
  refine WC.seq ?_
  refine WC.seq ?_
  refine WC.region ?_
  refine WL.y rfl (Yd.move rfl) ?_
  refine WL.y rfl (Yd.notB rfl) ?_
  refine WL.nil ?_
  refine DN.then_normal ?_
  refine WC.cond rfl (fun h19 => ?_) (fun h19 => ?_)
  · have hnone : findB L o = none := by simpa using h19
    refine WC.seq ?_
    refine WC.region ?_
    refine WL.y rfl (Yd.assign rfl) ?_
    refine WL.nil ?_
    refine DN.then_normal ?_
    refine WC.ret ?_
    refine DN.then_ret ?_
    refine DN.forget (row p [.slice xo rs.length xc, .map (some bm)] 55 :: (Cr ++ Cm)) (List.sublist_cons_self _ _) ?_
    refine DN.ret1 Try.results12 rfl ?_
    rw [hnone]
    exact ⟨rfl, rfl⟩
  · obtain ⟨bk, hbk⟩ : ∃ bk, findB L o = some bk := by
      cases h : findB L o with
      | none => rw [h] at h19; simp at h19
      | some b => exact ⟨b, rfl⟩
    have e10b : e10 = bk := by rw [he10, hbk]; rfl
    subst e10b
    have hb3 := hb e10 hbk
    obtain ⟨bk, hbk9⟩ : ∃ bk, bk = e10 := ⟨_, rfl⟩
    rw [← hbk9] at hb3 hbk ⊢
    refine WC.skip ?_
    refine DN.then_normal ?_
    refine WC.seq ?_
    refine WC.region ?_
    refine WL.y rfl (Yd.move rfl) ?_
    refine WL.y rfl (Yd.notNil rfl) ?_
    refine WL.y rfl (Yd.fieldAddr (k := 1) (by kernel_rfl) rfl) ?_
    refine WL.h rfl (Hd.load1 (v := .map (some bm)) (b := p) (cs := [.slice xo rs.length xc, .map (some bm)]) (by kernel_rfl) rfl (by first | exact List.mem_cons_self | exact List.mem_cons_of_mem _ List.mem_cons_self) rfl ⟨_, rfl, ?_⟩)
    refine WL.y rfl (Yd.move rfl) ?_
    refine WL.h0 (Hd.delete (KT := 24) (ET := 47) (kt := .u32) (C := Cm) (D := row b5 (splice [.int .u32 0, .int .i64 0, .int .i64 0] 0 bk.val.cells.toList) 47 :: row p [.slice xo rs.length xc, .map (some bm)] 55 :: Cr) (by kernel_rfl) (by kernel_rfl) rfl rfl rfl hm (keys_nodup hnd) (by classical exact List.perm_iff_count.2 fun q => by simp only [List.count_append, List.count_cons, List.count_nil]; omega) fun Cm2 hm2 => ⟨_, rfl, ?_⟩)
    refine WL.nil ?_
    refine DN.then_normal ?_
    refine WC.seq ?_
    rw [delM_bks] at hm2
    rcases hvr with ⟨_, h0, _⟩ | ⟨br, cap, extra, he, hc1, hc2, hx1, hx2, hCr⟩
    · omega
    simp only [Value.slice.injEq] at he
    obtain ⟨rfl, _, rfl⟩ := he
    subst hCr
    obtain ⟨Q, hQ⟩ : ∃ Q, Q = Cm2 ++ (row b5 (splice [.int .u32 0, .int .i64 0, .int .i64 0] 0 bk.val.cells.toList) 47 :: row p [.slice (some ⟨br, 0, none⟩) rs.length xc, .map (some bm)] 55 :: [row br (ic rs ++ extra) 3]) := ⟨_, rfl⟩
    have hmem5 : row b5 (splice [.int .u32 0, .int .i64 0, .int .i64 0] 0 bk.val.cells.toList) 47 ∈ Cm2 ++ (row b5 (splice [.int .u32 0, .int .i64 0, .int .i64 0] 0 bk.val.cells.toList) 47 :: row p [.slice (some ⟨br, 0, none⟩) rs.length xc, .map (some bm)] 55 :: [row br (ic rs ++ extra) 3]) := by simp
    have hmemp : row p [.slice (some ⟨br, 0, none⟩) rs.length xc, .map (some bm)] 55 ∈ Cm2 ++ (row b5 (splice [.int .u32 0, .int .i64 0, .int .i64 0] 0 bk.val.cells.toList) 47 :: row p [.slice (some ⟨br, 0, none⟩) rs.length xc, .map (some bm)] 55 :: [row br (ic rs ++ extra) 3]) := by simp
    have hmemr : row br (ic rs ++ extra) 3 ∈ Cm2 ++ (row b5 (splice [.int .u32 0, .int .i64 0, .int .i64 0] 0 bk.val.cells.toList) 47 :: row p [.slice (some ⟨br, 0, none⟩) rs.length xc, .map (some bm)] 55 :: [row br (ic rs ++ extra) 3]) := by simp
    rw [← hQ]
    refine WC.draw 13 (by kernel_rfl) rfl ?_
    refine WA.y (i := 0) (NoPanic.then (NoPanic.body)) rfl (by kernel_rfl) (by kernel_rfl) (by kernel_rfl) rfl (Yd.move rfl) ?_
    refine WA.y (i := 1) (NoPanic.then (NoPanic.body)) rfl (by kernel_rfl) (by kernel_rfl) (by kernel_rfl) rfl (Yd.notNil rfl) ?_
    refine WA.y (i := 2) (NoPanic.then (NoPanic.body)) rfl (by kernel_rfl) (by kernel_rfl) (by kernel_rfl) rfl (Yd.fieldAddr (k := 0) (by kernel_rfl) rfl) ?_
    refine WA.y (i := 4) (NoPanic.then (NoPanic.body)) rfl (by kernel_rfl) (by kernel_rfl) (by kernel_rfl) rfl (Yd.fieldAddr (k := 1) (by kernel_rfl) rfl) ?_
    refine WA.y (i := 8) (NoPanic.then (NoPanic.body)) rfl (by kernel_rfl) (by kernel_rfl) (by kernel_rfl) rfl (Yd.fieldAddr (k := 2) (by kernel_rfl) rfl) ?_
    refine WA.three (i := 3) (j := 5) (k := 9) (by kernel_rfl) ?_ ?_ ?_
    · refine WO.h rfl Wt.none rfl (Hd.load1 (v := .slice (some ⟨br, 0, none⟩) rs.length xc) (b := p) (cs := [.slice (some ⟨br, 0, none⟩) rs.length xc, .map (some bm)]) (by kernel_rfl) rfl (by rw [hQ]; exact hmemp) rfl ⟨_, rfl, ?_⟩)
      refine WA.two (i := 5) (j := 9) (by kernel_rfl) ?_ ?_
      · refine WO.h rfl Wt.none rfl (Hd.load1 (v := .int .i64 bk.day) (b := b5) (cs := splice [.int .u32 0, .int .i64 0, .int .i64 0] 0 bk.val.cells.toList) (by kernel_rfl) rfl (by rw [hQ]; exact hmem5) rfl ⟨_, rfl, ?_⟩)
        refine WA.y (i := 6) (NoPanic.then (NoPanic.body)) rfl (by kernel_rfl) (by kernel_rfl) (by kernel_rfl) rfl (Yd.indexAddr (e := 3) (s := 1) (by kernel_rfl) (by kernel_rfl) rfl rfl (by omega) (by omega)) ?_
        refine WA.two (i := 7) (j := 9) (by kernel_rfl) ?_ ?_
        · refine WO.h rfl Wt.none rfl (Hd.load1 (v := .int .i64 (rs.getD bk.day 0)) (b := br) (cs := ic rs ++ extra) (by kernel_rfl) rfl (by rw [hQ]; exact hmemr) (by rw [show 0 + (bk.day : Int).toNat * 1 = bk.day by omega, List.getElem?_append_left (by rw [ic_length]; exact hb3.1)]; exact ic_getD hb3.1) ⟨_, rfl, ?_⟩)
          refine WA.one (i := 9) (by kernel_rfl) ?_
          refine WO.h rfl Wt.none rfl (Hd.load1 (v := .int .i64 bk.n) (b := b5) (cs := splice [.int .u32 0, .int .i64 0, .int .i64 0] 0 bk.val.cells.toList) (by kernel_rfl) rfl (by rw [hQ]; exact hmem5) rfl ⟨_, rfl, ?_⟩)
          refine WA.y (i := 10) (NoPanic.then (NoPanic.body)) rfl (by kernel_rfl) (by kernel_rfl) (by kernel_rfl) rfl (Yd.add rfl rfl (by omega) (by omega)) ?_
          refine WA.y (i := 11) (NoPanic.then (NoPanic.body)) rfl (by kernel_rfl) (by kernel_rfl) (by kernel_rfl) rfl (Yd.indexAddr (e := 3) (s := 1) (by kernel_rfl) (by kernel_rfl) rfl rfl (by omega) (by omega)) ?_
          refine WA.one (i := 12) (by kernel_rfl) ?_
          refine WO.s rfl Wt.none (Hd.store1 (b := br) (cs := ic rs ++ extra) (T' := 3) (D := Cm2 ++ [row b5 (splice [.int .u32 0, .int .i64 0, .int .i64 0] 0 bk.val.cells.toList) 47, row p [.slice (some ⟨br, 0, none⟩) rs.length xc, .map (some bm)] 55]) (by kernel_rfl) rfl rfl rfl (by rw [hQ]; exact (by classical exact List.perm_iff_count.2 fun q => by simp only [List.count_append, List.count_cons, List.count_nil]; omega)) (by simp [ic_length]; omega) ⟨rfl, ?_⟩)
          refine WA.done (by kernel_rfl) ?_
          refine DN.then_normal ?_
          refine WC.seq ?_
          refine WC.region ?_
          refine WL.y rfl (Yd.assign rfl) ?_
          refine WL.nil ?_
          refine DN.then_normal ?_
          refine WC.ret ?_
          refine DN.blocks (row b5 (splice [.int .u32 0, .int .i64 0, .int .i64 0] 0 bk.val.cells.toList) 47 :: (row p [.slice (some ⟨br, 0, none⟩) rs.length xc, .map (some bm)] 55 :: ([row br (ic (rs.set bk.day (rs.getD bk.day 0 + bk.n)) ++ extra) 3] ++ Cm2))) (by rw [show 0 + (bk.day : Int).toNat * 1 = bk.day by omega, set_front _ _ _ _ (by rw [ic_length]; omega), ic_set]; exact (by classical exact List.perm_iff_count.2 fun q => by simp only [List.count_append, List.count_cons, List.count_nil]; omega)) ?_
          refine DN.forget _ (List.sublist_cons_self _ _) ?_
          refine DN.ret1 Try.results12 rfl ?_
          rw [hbk]
          exact ⟨rfl, _, [row br (ic (rs.set bk.day (rs.getD bk.day 0 + bk.n)) ++ extra) 3], bm, Cm2, rfl, .inr ⟨br, xc, extra, by simp, by simpa using hc1, hc2, by simp [ic_length], by simpa using hx2, rfl⟩, hm2, delB_nodup o hnd⟩
        · refine WO.h rfl Wt.none rfl (Hd.load1 (v := .int .i64 bk.n) (b := b5) (cs := splice [.int .u32 0, .int .i64 0, .int .i64 0] 0 bk.val.cells.toList) (by kernel_rfl) rfl (by rw [hQ]; exact hmem5) rfl ⟨_, rfl, ?_⟩)
          refine WA.one (i := 7) (by kernel_rfl) ?_
          refine WO.h rfl Wt.none rfl (Hd.load1 (v := .int .i64 (rs.getD bk.day 0)) (b := br) (cs := ic rs ++ extra) (by kernel_rfl) rfl (by rw [hQ]; exact hmemr) (by rw [show 0 + (bk.day : Int).toNat * 1 = bk.day by omega, List.getElem?_append_left (by rw [ic_length]; exact hb3.1)]; exact ic_getD hb3.1) ⟨_, rfl, ?_⟩)
          refine WA.y (i := 10) (NoPanic.then (NoPanic.body)) rfl (by kernel_rfl) (by kernel_rfl) (by kernel_rfl) rfl (Yd.add rfl rfl (by omega) (by omega)) ?_
          refine WA.y (i := 11) (NoPanic.then (NoPanic.body)) rfl (by kernel_rfl) (by kernel_rfl) (by kernel_rfl) rfl (Yd.indexAddr (e := 3) (s := 1) (by kernel_rfl) (by kernel_rfl) rfl rfl (by omega) (by omega)) ?_
          refine WA.one (i := 12) (by kernel_rfl) ?_
          refine WO.s rfl Wt.none (Hd.store1 (b := br) (cs := ic rs ++ extra) (T' := 3) (D := Cm2 ++ [row b5 (splice [.int .u32 0, .int .i64 0, .int .i64 0] 0 bk.val.cells.toList) 47, row p [.slice (some ⟨br, 0, none⟩) rs.length xc, .map (some bm)] 55]) (by kernel_rfl) rfl rfl rfl (by rw [hQ]; exact (by classical exact List.perm_iff_count.2 fun q => by simp only [List.count_append, List.count_cons, List.count_nil]; omega)) (by simp [ic_length]; omega) ⟨rfl, ?_⟩)
          refine WA.done (by kernel_rfl) ?_
          refine DN.then_normal ?_
          refine WC.seq ?_
          refine WC.region ?_
          refine WL.y rfl (Yd.assign rfl) ?_
          refine WL.nil ?_
          refine DN.then_normal ?_
          refine WC.ret ?_
          refine DN.blocks (row b5 (splice [.int .u32 0, .int .i64 0, .int .i64 0] 0 bk.val.cells.toList) 47 :: (row p [.slice (some ⟨br, 0, none⟩) rs.length xc, .map (some bm)] 55 :: ([row br (ic (rs.set bk.day (rs.getD bk.day 0 + bk.n)) ++ extra) 3] ++ Cm2))) (by rw [show 0 + (bk.day : Int).toNat * 1 = bk.day by omega, set_front _ _ _ _ (by rw [ic_length]; omega), ic_set]; exact (by classical exact List.perm_iff_count.2 fun q => by simp only [List.count_append, List.count_cons, List.count_nil]; omega)) ?_
          refine DN.forget _ (List.sublist_cons_self _ _) ?_
          refine DN.ret1 Try.results12 rfl ?_
          rw [hbk]
          exact ⟨rfl, _, [row br (ic (rs.set bk.day (rs.getD bk.day 0 + bk.n)) ++ extra) 3], bm, Cm2, rfl, .inr ⟨br, xc, extra, by simp, by simpa using hc1, hc2, by simp [ic_length], by simpa using hx2, rfl⟩, hm2, delB_nodup o hnd⟩
      · refine WO.h rfl Wt.none rfl (Hd.load1 (v := .int .i64 bk.n) (b := b5) (cs := splice [.int .u32 0, .int .i64 0, .int .i64 0] 0 bk.val.cells.toList) (by kernel_rfl) rfl (by rw [hQ]; exact hmem5) rfl ⟨_, rfl, ?_⟩)
        refine WA.one (i := 5) (by kernel_rfl) ?_
        refine WO.h rfl Wt.none rfl (Hd.load1 (v := .int .i64 bk.day) (b := b5) (cs := splice [.int .u32 0, .int .i64 0, .int .i64 0] 0 bk.val.cells.toList) (by kernel_rfl) rfl (by rw [hQ]; exact hmem5) rfl ⟨_, rfl, ?_⟩)
        refine WA.y (i := 6) (NoPanic.then (NoPanic.body)) rfl (by kernel_rfl) (by kernel_rfl) (by kernel_rfl) rfl (Yd.indexAddr (e := 3) (s := 1) (by kernel_rfl) (by kernel_rfl) rfl rfl (by omega) (by omega)) ?_
        refine WA.one (i := 7) (by kernel_rfl) ?_
        refine WO.h rfl Wt.none rfl (Hd.load1 (v := .int .i64 (rs.getD bk.day 0)) (b := br) (cs := ic rs ++ extra) (by kernel_rfl) rfl (by rw [hQ]; exact hmemr) (by rw [show 0 + (bk.day : Int).toNat * 1 = bk.day by omega, List.getElem?_append_left (by rw [ic_length]; exact hb3.1)]; exact ic_getD hb3.1) ⟨_, rfl, ?_⟩)
        refine WA.y (i := 10) (NoPanic.then (NoPanic.body)) rfl (by kernel_rfl) (by kernel_rfl) (by kernel_rfl) rfl (Yd.add rfl rfl (by omega) (by omega)) ?_
        refine WA.y (i := 11) (NoPanic.then (NoPanic.body)) rfl (by kernel_rfl) (by kernel_rfl) (by kernel_rfl) rfl (Yd.indexAddr (e := 3) (s := 1) (by kernel_rfl) (by kernel_rfl) rfl rfl (by omega) (by omega)) ?_
        refine WA.one (i := 12) (by kernel_rfl) ?_
        refine WO.s rfl Wt.none (Hd.store1 (b := br) (cs := ic rs ++ extra) (T' := 3) (D := Cm2 ++ [row b5 (splice [.int .u32 0, .int .i64 0, .int .i64 0] 0 bk.val.cells.toList) 47, row p [.slice (some ⟨br, 0, none⟩) rs.length xc, .map (some bm)] 55]) (by kernel_rfl) rfl rfl rfl (by rw [hQ]; exact (by classical exact List.perm_iff_count.2 fun q => by simp only [List.count_append, List.count_cons, List.count_nil]; omega)) (by simp [ic_length]; omega) ⟨rfl, ?_⟩)
        refine WA.done (by kernel_rfl) ?_
        refine DN.then_normal ?_
        refine WC.seq ?_
        refine WC.region ?_
        refine WL.y rfl (Yd.assign rfl) ?_
        refine WL.nil ?_
        refine DN.then_normal ?_
        refine WC.ret ?_
        refine DN.blocks (row b5 (splice [.int .u32 0, .int .i64 0, .int .i64 0] 0 bk.val.cells.toList) 47 :: (row p [.slice (some ⟨br, 0, none⟩) rs.length xc, .map (some bm)] 55 :: ([row br (ic (rs.set bk.day (rs.getD bk.day 0 + bk.n)) ++ extra) 3] ++ Cm2))) (by rw [show 0 + (bk.day : Int).toNat * 1 = bk.day by omega, set_front _ _ _ _ (by rw [ic_length]; omega), ic_set]; exact (by classical exact List.perm_iff_count.2 fun q => by simp only [List.count_append, List.count_cons, List.count_nil]; omega)) ?_
        refine DN.forget _ (List.sublist_cons_self _ _) ?_
        refine DN.ret1 Try.results12 rfl ?_
        rw [hbk]
        exact ⟨rfl, _, [row br (ic (rs.set bk.day (rs.getD bk.day 0 + bk.n)) ++ extra) 3], bm, Cm2, rfl, .inr ⟨br, xc, extra, by simp, by simpa using hc1, hc2, by simp [ic_length], by simpa using hx2, rfl⟩, hm2, delB_nodup o hnd⟩
    · refine WO.h rfl Wt.none rfl (Hd.load1 (v := .int .i64 bk.day) (b := b5) (cs := splice [.int .u32 0, .int .i64 0, .int .i64 0] 0 bk.val.cells.toList) (by kernel_rfl) rfl (by rw [hQ]; exact hmem5) rfl ⟨_, rfl, ?_⟩)
      refine WA.two (i := 3) (j := 9) (by kernel_rfl) ?_ ?_
      · refine WO.h rfl Wt.none rfl (Hd.load1 (v := .slice (some ⟨br, 0, none⟩) rs.length xc) (b := p) (cs := [.slice (some ⟨br, 0, none⟩) rs.length xc, .map (some bm)]) (by kernel_rfl) rfl (by rw [hQ]; exact hmemp) rfl ⟨_, rfl, ?_⟩)
        refine WA.y (i := 6) (NoPanic.then (NoPanic.body)) rfl (by kernel_rfl) (by kernel_rfl) (by kernel_rfl) rfl (Yd.indexAddr (e := 3) (s := 1) (by kernel_rfl) (by kernel_rfl) rfl rfl (by omega) (by omega)) ?_
        refine WA.two (i := 7) (j := 9) (by kernel_rfl) ?_ ?_
        · refine WO.h rfl Wt.none rfl (Hd.load1 (v := .int .i64 (rs.getD bk.day 0)) (b := br) (cs := ic rs ++ extra) (by kernel_rfl) rfl (by rw [hQ]; exact hmemr) (by rw [show 0 + (bk.day : Int).toNat * 1 = bk.day by omega, List.getElem?_append_left (by rw [ic_length]; exact hb3.1)]; exact ic_getD hb3.1) ⟨_, rfl, ?_⟩)
          refine WA.one (i := 9) (by kernel_rfl) ?_
          refine WO.h rfl Wt.none rfl (Hd.load1 (v := .int .i64 bk.n) (b := b5) (cs := splice [.int .u32 0, .int .i64 0, .int .i64 0] 0 bk.val.cells.toList) (by kernel_rfl) rfl (by rw [hQ]; exact hmem5) rfl ⟨_, rfl, ?_⟩)
          refine WA.y (i := 10) (NoPanic.then (NoPanic.body)) rfl (by kernel_rfl) (by kernel_rfl) (by kernel_rfl) rfl (Yd.add rfl rfl (by omega) (by omega)) ?_
          refine WA.y (i := 11) (NoPanic.then (NoPanic.body)) rfl (by kernel_rfl) (by kernel_rfl) (by kernel_rfl) rfl (Yd.indexAddr (e := 3) (s := 1) (by kernel_rfl) (by kernel_rfl) rfl rfl (by omega) (by omega)) ?_
          refine WA.one (i := 12) (by kernel_rfl) ?_
          refine WO.s rfl Wt.none (Hd.store1 (b := br) (cs := ic rs ++ extra) (T' := 3) (D := Cm2 ++ [row b5 (splice [.int .u32 0, .int .i64 0, .int .i64 0] 0 bk.val.cells.toList) 47, row p [.slice (some ⟨br, 0, none⟩) rs.length xc, .map (some bm)] 55]) (by kernel_rfl) rfl rfl rfl (by rw [hQ]; exact (by classical exact List.perm_iff_count.2 fun q => by simp only [List.count_append, List.count_cons, List.count_nil]; omega)) (by simp [ic_length]; omega) ⟨rfl, ?_⟩)
          refine WA.done (by kernel_rfl) ?_
          refine DN.then_normal ?_
          refine WC.seq ?_
          refine WC.region ?_
          refine WL.y rfl (Yd.assign rfl) ?_
          refine WL.nil ?_
          refine DN.then_normal ?_
          refine WC.ret ?_
          refine DN.blocks (row b5 (splice [.int .u32 0, .int .i64 0, .int .i64 0] 0 bk.val.cells.toList) 47 :: (row p [.slice (some ⟨br, 0, none⟩) rs.length xc, .map (some bm)] 55 :: ([row br (ic (rs.set bk.day (rs.getD bk.day 0 + bk.n)) ++ extra) 3] ++ Cm2))) (by rw [show 0 + (bk.day : Int).toNat * 1 = bk.day by omega, set_front _ _ _ _ (by rw [ic_length]; omega), ic_set]; exact (by classical exact List.perm_iff_count.2 fun q => by simp only [List.count_append, List.count_cons, List.count_nil]; omega)) ?_
          refine DN.forget _ (List.sublist_cons_self _ _) ?_
          refine DN.ret1 Try.results12 rfl ?_
          rw [hbk]
          exact ⟨rfl, _, [row br (ic (rs.set bk.day (rs.getD bk.day 0 + bk.n)) ++ extra) 3], bm, Cm2, rfl, .inr ⟨br, xc, extra, by simp, by simpa using hc1, hc2, by simp [ic_length], by simpa using hx2, rfl⟩, hm2, delB_nodup o hnd⟩
        · refine WO.h rfl Wt.none rfl (Hd.load1 (v := .int .i64 bk.n) (b := b5) (cs := splice [.int .u32 0, .int .i64 0, .int .i64 0] 0 bk.val.cells.toList) (by kernel_rfl) rfl (by rw [hQ]; exact hmem5) rfl ⟨_, rfl, ?_⟩)
          refine WA.one (i := 7) (by kernel_rfl) ?_
          refine WO.h rfl Wt.none rfl (Hd.load1 (v := .int .i64 (rs.getD bk.day 0)) (b := br) (cs := ic rs ++ extra) (by kernel_rfl) rfl (by rw [hQ]; exact hmemr) (by rw [show 0 + (bk.day : Int).toNat * 1 = bk.day by omega, List.getElem?_append_left (by rw [ic_length]; exact hb3.1)]; exact ic_getD hb3.1) ⟨_, rfl, ?_⟩)
          refine WA.y (i := 10) (NoPanic.then (NoPanic.body)) rfl (by kernel_rfl) (by kernel_rfl) (by kernel_rfl) rfl (Yd.add rfl rfl (by omega) (by omega)) ?_
          refine WA.y (i := 11) (NoPanic.then (NoPanic.body)) rfl (by kernel_rfl) (by kernel_rfl) (by kernel_rfl) rfl (Yd.indexAddr (e := 3) (s := 1) (by kernel_rfl) (by kernel_rfl) rfl rfl (by omega) (by omega)) ?_
          refine WA.one (i := 12) (by kernel_rfl) ?_
          refine WO.s rfl Wt.none (Hd.store1 (b := br) (cs := ic rs ++ extra) (T' := 3) (D := Cm2 ++ [row b5 (splice [.int .u32 0, .int .i64 0, .int .i64 0] 0 bk.val.cells.toList) 47, row p [.slice (some ⟨br, 0, none⟩) rs.length xc, .map (some bm)] 55]) (by kernel_rfl) rfl rfl rfl (by rw [hQ]; exact (by classical exact List.perm_iff_count.2 fun q => by simp only [List.count_append, List.count_cons, List.count_nil]; omega)) (by simp [ic_length]; omega) ⟨rfl, ?_⟩)
          refine WA.done (by kernel_rfl) ?_
          refine DN.then_normal ?_
          refine WC.seq ?_
          refine WC.region ?_
          refine WL.y rfl (Yd.assign rfl) ?_
          refine WL.nil ?_
          refine DN.then_normal ?_
          refine WC.ret ?_
          refine DN.blocks (row b5 (splice [.int .u32 0, .int .i64 0, .int .i64 0] 0 bk.val.cells.toList) 47 :: (row p [.slice (some ⟨br, 0, none⟩) rs.length xc, .map (some bm)] 55 :: ([row br (ic (rs.set bk.day (rs.getD bk.day 0 + bk.n)) ++ extra) 3] ++ Cm2))) (by rw [show 0 + (bk.day : Int).toNat * 1 = bk.day by omega, set_front _ _ _ _ (by rw [ic_length]; omega), ic_set]; exact (by classical exact List.perm_iff_count.2 fun q => by simp only [List.count_append, List.count_cons, List.count_nil]; omega)) ?_
          refine DN.forget _ (List.sublist_cons_self _ _) ?_
          refine DN.ret1 Try.results12 rfl ?_
          rw [hbk]
          exact ⟨rfl, _, [row br (ic (rs.set bk.day (rs.getD bk.day 0 + bk.n)) ++ extra) 3], bm, Cm2, rfl, .inr ⟨br, xc, extra, by simp, by simpa using hc1, hc2, by simp [ic_length], by simpa using hx2, rfl⟩, hm2, delB_nodup o hnd⟩
      · refine WO.h rfl Wt.none rfl (Hd.load1 (v := .int .i64 bk.n) (b := b5) (cs := splice [.int .u32 0, .int .i64 0, .int .i64 0] 0 bk.val.cells.toList) (by kernel_rfl) rfl (by rw [hQ]; exact hmem5) rfl ⟨_, rfl, ?_⟩)
        refine WA.one (i := 3) (by kernel_rfl) ?_
        refine WO.h rfl Wt.none rfl (Hd.load1 (v := .slice (some ⟨br, 0, none⟩) rs.length xc) (b := p) (cs := [.slice (some ⟨br, 0, none⟩) rs.length xc, .map (some bm)]) (by kernel_rfl) rfl (by rw [hQ]; exact hmemp) rfl ⟨_, rfl, ?_⟩)
        refine WA.y (i := 6) (NoPanic.then (NoPanic.body)) rfl (by kernel_rfl) (by kernel_rfl) (by kernel_rfl) rfl (Yd.indexAddr (e := 3) (s := 1) (by kernel_rfl) (by kernel_rfl) rfl rfl (by omega) (by omega)) ?_
        refine WA.one (i := 7) (by kernel_rfl) ?_
        refine WO.h rfl Wt.none rfl (Hd.load1 (v := .int .i64 (rs.getD bk.day 0)) (b := br) (cs := ic rs ++ extra) (by kernel_rfl) rfl (by rw [hQ]; exact hmemr) (by rw [show 0 + (bk.day : Int).toNat * 1 = bk.day by omega, List.getElem?_append_left (by rw [ic_length]; exact hb3.1)]; exact ic_getD hb3.1) ⟨_, rfl, ?_⟩)
        refine WA.y (i := 10) (NoPanic.then (NoPanic.body)) rfl (by kernel_rfl) (by kernel_rfl) (by kernel_rfl) rfl (Yd.add rfl rfl (by omega) (by omega)) ?_
        refine WA.y (i := 11) (NoPanic.then (NoPanic.body)) rfl (by kernel_rfl) (by kernel_rfl) (by kernel_rfl) rfl (Yd.indexAddr (e := 3) (s := 1) (by kernel_rfl) (by kernel_rfl) rfl rfl (by omega) (by omega)) ?_
        refine WA.one (i := 12) (by kernel_rfl) ?_
        refine WO.s rfl Wt.none (Hd.store1 (b := br) (cs := ic rs ++ extra) (T' := 3) (D := Cm2 ++ [row b5 (splice [.int .u32 0, .int .i64 0, .int .i64 0] 0 bk.val.cells.toList) 47, row p [.slice (some ⟨br, 0, none⟩) rs.length xc, .map (some bm)] 55]) (by kernel_rfl) rfl rfl rfl (by rw [hQ]; exact (by classical exact List.perm_iff_count.2 fun q => by simp only [List.count_append, List.count_cons, List.count_nil]; omega)) (by simp [ic_length]; omega) ⟨rfl, ?_⟩)
        refine WA.done (by kernel_rfl) ?_
        refine DN.then_normal ?_
        refine WC.seq ?_
        refine WC.region ?_
        refine WL.y rfl (Yd.assign rfl) ?_
        refine WL.nil ?_
        refine DN.then_normal ?_
        refine WC.ret ?_
        refine DN.blocks (row b5 (splice [.int .u32 0, .int .i64 0, .int .i64 0] 0 bk.val.cells.toList) 47 :: (row p [.slice (some ⟨br, 0, none⟩) rs.length xc, .map (some bm)] 55 :: ([row br (ic (rs.set bk.day (rs.getD bk.day 0 + bk.n)) ++ extra) 3] ++ Cm2))) (by rw [show 0 + (bk.day : Int).toNat * 1 = bk.day by omega, set_front _ _ _ _ (by rw [ic_length]; omega), ic_set]; exact (by classical exact List.perm_iff_count.2 fun q => by simp only [List.count_append, List.count_cons, List.count_nil]; omega)) ?_
        refine DN.forget _ (List.sublist_cons_self _ _) ?_
        refine DN.ret1 Try.results12 rfl ?_
        rw [hbk]
        exact ⟨rfl, _, [row br (ic (rs.set bk.day (rs.getD bk.day 0 + bk.n)) ++ extra) 3], bm, Cm2, rfl, .inr ⟨br, xc, extra, by simp, by simpa using hc1, hc2, by simp [ic_length], by simpa using hx2, rfl⟩, hm2, delB_nodup o hnd⟩
    · refine WO.h rfl Wt.none rfl (Hd.load1 (v := .int .i64 bk.n) (b := b5) (cs := splice [.int .u32 0, .int .i64 0, .int .i64 0] 0 bk.val.cells.toList) (by kernel_rfl) rfl (by rw [hQ]; exact hmem5) rfl ⟨_, rfl, ?_⟩)
      refine WA.two (i := 3) (j := 5) (by kernel_rfl) ?_ ?_
      · refine WO.h rfl Wt.none rfl (Hd.load1 (v := .slice (some ⟨br, 0, none⟩) rs.length xc) (b := p) (cs := [.slice (some ⟨br, 0, none⟩) rs.length xc, .map (some bm)]) (by kernel_rfl) rfl (by rw [hQ]; exact hmemp) rfl ⟨_, rfl, ?_⟩)
        refine WA.one (i := 5) (by kernel_rfl) ?_
        refine WO.h rfl Wt.none rfl (Hd.load1 (v := .int .i64 bk.day) (b := b5) (cs := splice [.int .u32 0, .int .i64 0, .int .i64 0] 0 bk.val.cells.toList) (by kernel_rfl) rfl (by rw [hQ]; exact hmem5) rfl ⟨_, rfl, ?_⟩)
        refine WA.y (i := 6) (NoPanic.then (NoPanic.body)) rfl (by kernel_rfl) (by kernel_rfl) (by kernel_rfl) rfl (Yd.indexAddr (e := 3) (s := 1) (by kernel_rfl) (by kernel_rfl) rfl rfl (by omega) (by omega)) ?_
        refine WA.one (i := 7) (by kernel_rfl) ?_
        refine WO.h rfl Wt.none rfl (Hd.load1 (v := .int .i64 (rs.getD bk.day 0)) (b := br) (cs := ic rs ++ extra) (by kernel_rfl) rfl (by rw [hQ]; exact hmemr) (by rw [show 0 + (bk.day : Int).toNat * 1 = bk.day by omega, List.getElem?_append_left (by rw [ic_length]; exact hb3.1)]; exact ic_getD hb3.1) ⟨_, rfl, ?_⟩)
        refine WA.y (i := 10) (NoPanic.then (NoPanic.body)) rfl (by kernel_rfl) (by kernel_rfl) (by kernel_rfl) rfl (Yd.add rfl rfl (by omega) (by omega)) ?_
        refine WA.y (i := 11) (NoPanic.then (NoPanic.body)) rfl (by kernel_rfl) (by kernel_rfl) (by kernel_rfl) rfl (Yd.indexAddr (e := 3) (s := 1) (by kernel_rfl) (by kernel_rfl) rfl rfl (by omega) (by omega)) ?_
        refine WA.one (i := 12) (by kernel_rfl) ?_
        refine WO.s rfl Wt.none (Hd.store1 (b := br) (cs := ic rs ++ extra) (T' := 3) (D := Cm2 ++ [row b5 (splice [.int .u32 0, .int .i64 0, .int .i64 0] 0 bk.val.cells.toList) 47, row p [.slice (some ⟨br, 0, none⟩) rs.length xc, .map (some bm)] 55]) (by kernel_rfl) rfl rfl rfl (by rw [hQ]; exact (by classical exact List.perm_iff_count.2 fun q => by simp only [List.count_append, List.count_cons, List.count_nil]; omega)) (by simp [ic_length]; omega) ⟨rfl, ?_⟩)
        refine WA.done (by kernel_rfl) ?_
        refine DN.then_normal ?_
        refine WC.seq ?_
        refine WC.region ?_
        refine WL.y rfl (Yd.assign rfl) ?_
        refine WL.nil ?_
        refine DN.then_normal ?_
        refine WC.ret ?_
        refine DN.blocks (row b5 (splice [.int .u32 0, .int .i64 0, .int .i64 0] 0 bk.val.cells.toList) 47 :: (row p [.slice (some ⟨br, 0, none⟩) rs.length xc, .map (some bm)] 55 :: ([row br (ic (rs.set bk.day (rs.getD bk.day 0 + bk.n)) ++ extra) 3] ++ Cm2))) (by rw [show 0 + (bk.day : Int).toNat * 1 = bk.day by omega, set_front _ _ _ _ (by rw [ic_length]; omega), ic_set]; exact (by classical exact List.perm_iff_count.2 fun q => by simp only [List.count_append, List.count_cons, List.count_nil]; omega)) ?_
        refine DN.forget _ (List.sublist_cons_self _ _) ?_
        refine DN.ret1 Try.results12 rfl ?_
        rw [hbk]
        exact ⟨rfl, _, [row br (ic (rs.set bk.day (rs.getD bk.day 0 + bk.n)) ++ extra) 3], bm, Cm2, rfl, .inr ⟨br, xc, extra, by simp, by simpa using hc1, hc2, by simp [ic_length], by simpa using hx2, rfl⟩, hm2, delB_nodup o hnd⟩
      · refine WO.h rfl Wt.none rfl (Hd.load1 (v := .int .i64 bk.day) (b := b5) (cs := splice [.int .u32 0, .int .i64 0, .int .i64 0] 0 bk.val.cells.toList) (by kernel_rfl) rfl (by rw [hQ]; exact hmem5) rfl ⟨_, rfl, ?_⟩)
        refine WA.one (i := 3) (by kernel_rfl) ?_
        refine WO.h rfl Wt.none rfl (Hd.load1 (v := .slice (some ⟨br, 0, none⟩) rs.length xc) (b := p) (cs := [.slice (some ⟨br, 0, none⟩) rs.length xc, .map (some bm)]) (by kernel_rfl) rfl (by rw [hQ]; exact hmemp) rfl ⟨_, rfl, ?_⟩)
        refine WA.y (i := 6) (NoPanic.then (NoPanic.body)) rfl (by kernel_rfl) (by kernel_rfl) (by kernel_rfl) rfl (Yd.indexAddr (e := 3) (s := 1) (by kernel_rfl) (by kernel_rfl) rfl rfl (by omega) (by omega)) ?_
        refine WA.one (i := 7) (by kernel_rfl) ?_
        refine WO.h rfl Wt.none rfl (Hd.load1 (v := .int .i64 (rs.getD bk.day 0)) (b := br) (cs := ic rs ++ extra) (by kernel_rfl) rfl (by rw [hQ]; exact hmemr) (by rw [show 0 + (bk.day : Int).toNat * 1 = bk.day by omega, List.getElem?_append_left (by rw [ic_length]; exact hb3.1)]; exact ic_getD hb3.1) ⟨_, rfl, ?_⟩)
        refine WA.y (i := 10) (NoPanic.then (NoPanic.body)) rfl (by kernel_rfl) (by kernel_rfl) (by kernel_rfl) rfl (Yd.add rfl rfl (by omega) (by omega)) ?_
        refine WA.y (i := 11) (NoPanic.then (NoPanic.body)) rfl (by kernel_rfl) (by kernel_rfl) (by kernel_rfl) rfl (Yd.indexAddr (e := 3) (s := 1) (by kernel_rfl) (by kernel_rfl) rfl rfl (by omega) (by omega)) ?_
        refine WA.one (i := 12) (by kernel_rfl) ?_
        refine WO.s rfl Wt.none (Hd.store1 (b := br) (cs := ic rs ++ extra) (T' := 3) (D := Cm2 ++ [row b5 (splice [.int .u32 0, .int .i64 0, .int .i64 0] 0 bk.val.cells.toList) 47, row p [.slice (some ⟨br, 0, none⟩) rs.length xc, .map (some bm)] 55]) (by kernel_rfl) rfl rfl rfl (by rw [hQ]; exact (by classical exact List.perm_iff_count.2 fun q => by simp only [List.count_append, List.count_cons, List.count_nil]; omega)) (by simp [ic_length]; omega) ⟨rfl, ?_⟩)
        refine WA.done (by kernel_rfl) ?_
        refine DN.then_normal ?_
        refine WC.seq ?_
        refine WC.region ?_
        refine WL.y rfl (Yd.assign rfl) ?_
        refine WL.nil ?_
        refine DN.then_normal ?_
        refine WC.ret ?_
        refine DN.blocks (row b5 (splice [.int .u32 0, .int .i64 0, .int .i64 0] 0 bk.val.cells.toList) 47 :: (row p [.slice (some ⟨br, 0, none⟩) rs.length xc, .map (some bm)] 55 :: ([row br (ic (rs.set bk.day (rs.getD bk.day 0 + bk.n)) ++ extra) 3] ++ Cm2))) (by rw [show 0 + (bk.day : Int).toNat * 1 = bk.day by omega, set_front _ _ _ _ (by rw [ic_length]; omega), ic_set]; exact (by classical exact List.perm_iff_count.2 fun q => by simp only [List.count_append, List.count_cons, List.count_nil]; omega)) ?_
        refine DN.forget _ (List.sublist_cons_self _ _) ?_
        refine DN.ret1 Try.results12 rfl ?_
        rw [hbk]
        exact ⟨rfl, _, [row br (ic (rs.set bk.day (rs.getD bk.day 0 + bk.n)) ++ extra) 3], bm, Cm2, rfl, .inr ⟨br, xc, extra, by simp, by simpa using hc1, hc2, by simp [ic_length], by simpa using hx2, rfl⟩, hm2, delB_nodup o hnd⟩

end Go.Proofs.Ytmdbmcicbambjaa
