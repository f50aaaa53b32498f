/-
  'append' that keeps what was there; lists of slices of our own, opened at a place.
-/
import Derived.Test.YtonnkgblligdkaaSLMore2
set_option linter.unusedVariables false
set_option linter.unusedSimpArgs false
namespace Go.SL

variable {P : Program} {l : Sl} {H : List Ck} {d : Option Nat} {ty : TypeId} {pos : String} {aft : Array Edge} {g : Option (Nat × Bool)}

/-- a slice from the begin of a block -/
def R0 (u : Value) (m : Nat) (ys : List Value) (C : List Ck) : Prop :=
  (∃ ao cap, u = .slice ao 0 cap ∧ m = 0 ∧ ys = []) ∨
  ∃ (b cap : Nat) (cs : List Value) (T : TypeId) (fr : Nat × Nat) (ex : Bool), u = .slice (some ⟨b, 0, none⟩) m cap ∧ m ≤ cap ∧ (⟨b, .cells cs.toArray T fr, ex⟩ : Ck) ∈ C ∧ cs.take ys.length = ys
theorem R0.rs {u : Value} {m : Nat} {ys : List Value} {C : List Ck} (h : R0 u m ys C) : Rs u m ys C := by
  rcases h with h | ⟨b, cap, cs, T, fr, ex, h1, h2, h3, h4⟩
  · exact .inl h
  · exact .inr ⟨b, 0, cap, cs, T, fr, ex, h1, h2, h3, by simpa using h4⟩
theorem R0.mono {u : Value} {m : Nat} {ys : List Value} {A B : List Ck} (h : R0 u m ys A) (s : ∀ c ∈ A, c ∈ B) : R0 u m ys B := by
  rcases h with h | ⟨b, cap, cs, T, fr, ex, h1, h2, h3, h4⟩
  · exact .inl h
  · exact .inr ⟨b, cap, cs, T, fr, ex, h1, h2, s _ h3, h4⟩
theorem Own.r0 {v : Value} {n : Nat} {xs : List Value} {T : TypeId} {sz : Nat} {C : List Ck} (h : Own v n xs T sz C) : R0 v n xs C := by
  rcases h with ⟨rfl, rfl, rfl, rfl⟩ | ⟨b, cap, extra, rfl, h1, h2, h3, h4, rfl⟩
  · exact .inl ⟨_, _, rfl, rfl, rfl⟩
  · exact .inr ⟨b, cap, xs ++ extra, T, (0, 0), true, rfl, h1, List.mem_cons_self, by simp⟩

/-- What an append does, and what it leaves. -/
theorem run_append_keep {w : World} {T e sz bytes : Nat} {zs : List Value} {v u : Value} {n m : Nat} {xs news : List Value} {C D : List Ck} {ty : TypeId} (hT : sliceOf P T = some e) (hE : elemInfo P e = some (sz, zs, bytes)) (hz : zs.length = sz) (hsz : 0 < sz)
    (own : Own v n xs e sz C) (src : Rs u m news (C ++ D)) (hl : news.length = m * sz) (h1 : ∀ u ∈ news, u.oneCell' = true) (hmax : n + m ≤ maxLen) (hb : (n + m) * bytes ≤ 140737488355328) (s : Sat w (C ++ D)) :
    ∃ v' w' C' O, (Builtin.append_ #[T, T] ty #[v, u]).run P w = .ok v' w' ∧ Own v' (n + m) (xs ++ news) e sz C' ∧ Sat w' (C' ++ (O ++ D)) ∧ Kept w w' ∧ ∀ u' m' ys, R0 u' m' ys C → ys.length ≤ xs.length → R0 u' m' ys (C' ++ O) := by
  obtain ⟨i, z, hi, hzr, rfl, rfl, rfl⟩ := elemInfo_spec hE
  have hu := underlying_slice hT
  have hsmall : n + m ≤ 9223372036854775807 := by simp only [maxLen] at hmax; omega
  have hlen : (xs ++ news).length = (n + m) * i.size := by rw [List.length_append, own.len, hl, Nat.add_mul]
  have grown : ∀ (old : Nat), old < n + m →
      Own (.slice (some ⟨w.heap.size, 0, none⟩) (n + m) (grownCap w (n + m) old e)) (n + m) (xs ++ news) e i.size [row w.heap.size ((xs ++ news) ++ (Builtin.zeroCells z.cells (grownCap w (n + m) old e - (n + m))).toList) e] ∧
      Sat (w.drew.alloc (.cells (xs.toArray ++ news.toArray ++ Builtin.zeroCells z.cells (grownCap w (n + m) old e - (n + m))) e)) ([row w.heap.size ((xs ++ news) ++ (Builtin.zeroCells z.cells (grownCap w (n + m) old e - (n + m))).toList) e] ++ (C ++ D)) := by
    intro old ho
    have hge := grownCap_ge w (n + m) old e
    have hcm : grownCap w (n + m) old e ≤ maxLen := grownCap_le_maxLen w (n + m) old e hmax
    refine ⟨.inr ⟨_, _, _, rfl, hge, hcm, hlen, ?_, rfl⟩, ?_⟩
    · rw [size_zeroCells']
      congr 1
    · have := s.heap (w' := w.drew) rfl
      have h2 := this.push (.cells (xs.toArray ++ news.toArray ++ Builtin.zeroCells z.cells (grownCap w (n + m) old e - (n + m))) e) true
      have e1 : (xs.toArray ++ news.toArray ++ Builtin.zeroCells z.cells (grownCap w (n + m) old e - (n + m))) = (((xs ++ news) ++ (Builtin.zeroCells z.cells (grownCap w (n + m) old e - (n + m))).toList)).toArray := by
        apply Array.ext'
        simp
      rw [e1] at h2 ⊢
      exact h2
  have kg : ∀ o, Kept w (w.drew.alloc o) := fun o => ⟨rfl, rfl, rfl, by simp, by first | exact Nat.le_refl _ | exact Nat.le_succ _⟩
  rcases Rs.cells (R := []) src (by simpa using s) with ⟨uo, uc, rfl, rfl, rfl⟩ | ⟨a, c, rfl, hcells⟩
  · refine ⟨v, w, C, [], ?_, by simpa using own, by simpa using s, .refl w, fun u' m' ys h _ => by simpa using h⟩
    obtain ⟨ao, cap, rfl, hc⟩ := own.form
    have hst : ∀ a' : Addr, (storeCells a' []).run P w = .ok () w := fun a' => by simp [storeCells]
    have hld : ∀ a' : Addr, (loadCells a' 0).run P w = .ok #[] w := fun a' => by simp [loadCells, loadCellsFrom]
    cases ao with
    | none => cases uo <;> simp [Builtin.append_, run_underlying hu, sizeOf, typeInfo, hi, Builtin.lenOf, hc, Builtin.firstCells, hld]
    | some a' => cases uo <;> simp [Builtin.append_, run_underlying hu, sizeOf, typeInfo, hi, Builtin.lenOf, hc, Builtin.firstCells, hst, hld]
  · rcases own with ⟨rfl, rfl, rfl, rfl⟩ | ⟨b, cap, extra, rfl, hnc, hcm, hxl, hel, rfl⟩
    · by_cases hm : m = 0
      · subst hm
        have hn : news = [] := List.eq_nil_of_length_eq_zero (by simpa using hl)
        subst hn
        refine ⟨.slice none 0 0, w, [], [], ?_, Own.nil e i.size, by simpa using s, .refl w, fun u' m' ys h _ => by simpa using h⟩
        simp [Builtin.append_, run_underlying hu, sizeOf, typeInfo, hi, Builtin.lenOf, Builtin.firstCells, loadCells, loadCellsFrom]
      · have hr := run_append_nil (P := P) w T ty e i z hu hi hzr a m c news hl hcells (by omega) (by omega) (by simp only [Nat.zero_add] at hb; omega)
        have hgr := grown 0 (by omega)
        simp only [Nat.zero_add, List.nil_append] at hgr hr ⊢
        refine ⟨_, _, _, [], hr, hgr.1, ?_, kg _, fun u' m' ys h _ => h.mono fun c hc => by cases hc⟩
        simpa using hgr.2
    · by_cases hroom : n + m ≤ cap
      · have hg := s.holds _ (List.mem_append_left D List.mem_cons_self)
        have hfit : n * i.size + news.length ≤ (xs ++ extra).toArray.size := by
          simp only [List.size_toArray, List.length_append, hxl, hel, hl, ← Nat.add_mul]
          apply Nat.mul_le_mul_right
          omega
        have hr := run_append_room (P := P) w T ty e i hu hi b n cap _ hg a m c news hl hcells h1 hroom hfit
        have e1 : ((xs ++ extra).toArray.toList.take (n * i.size) ++ news ++ (xs ++ extra).toArray.toList.drop (n * i.size + news.length)) = (xs ++ news) ++ extra.drop news.length := by
          rw [← hxl]
          simp [List.drop_append]
        rw [e1] at hr
        refine ⟨_, _, [row b ((xs ++ news) ++ extra.drop news.length) e], [], hr, .inr ⟨b, cap, _, rfl, hroom, hcm, hlen, ?_, rfl⟩, Sat.setRow s, kept_setRow _ _ _, ?_⟩
        · rw [List.length_drop, hel, hl, ← Nat.sub_mul]
          congr 1
          omega
        · intro u' m' ys h hys
          rcases h with h | ⟨b', cap', cs, T', fr, ex, h1', h2', h3', h4'⟩
          · exact .inl h
          · rw [List.mem_singleton] at h3'
            simp only [row, Ck.mk.injEq] at h3'
            obtain ⟨rfl, h5, rfl⟩ := h3'
            simp only [Obj.cells.injEq] at h5
            obtain ⟨h6, rfl, rfl⟩ := h5
            have h7 : cs = xs ++ extra := by simpa using h6
            subst h7
            refine .inr ⟨_, cap', (xs ++ news) ++ extra.drop news.length, _, _, _, h1', h2', List.mem_cons_self, ?_⟩
            rw [List.append_assoc, List.take_append_of_le_length hys]
            rwa [List.take_append_of_le_length hys] at h4'
      · have holds : ∀ j u, xs[j]? = some u → w.cell? ((⟨b, 0, none⟩ : Addr).add j) = some u := fun j u hu => by
          rw [add_plain, cell_at (s.holds _ (List.mem_append_left D List.mem_cons_self))]
          have hj : j < xs.length := (List.getElem?_eq_some_iff.1 hu).1
          simp only [List.getElem?_toArray, Nat.zero_add]
          rw [List.getElem?_append_left hj]
          exact hu
        have hr := run_append_grow (P := P) w T ty e i z hu hi hzr ⟨b, 0, none⟩ n cap xs hxl holds a m c news hl hcells (by omega) (by omega) (growslice_fits (by omega) hb)
        have hgr := grown cap (by omega)
        exact ⟨_, _, _, [row b (xs ++ extra) e], hr, hgr.1, hgr.2, kg _, fun u' m' ys h _ => h.mono fun c hc => List.mem_append_right _ hc⟩
theorem Hd.appendKeep {x y : Operand} {T e sz bytes : Nat} {zs : List Value} {v u : Value} {n m : Nat} {xs news : List Value} {C D : List Ck} {K : Next → List Ck → Prop} (hT : sliceOf P T = some e) (hE : elemInfo P e = some (sz, zs, bytes)) (hz : zs.length = sz) (hsz : 0 < sz)
    (hx : ev l x = some v) (hy : ev l y = some u) (own : Own v n xs e sz C) (src : Rs u m news (C ++ D)) (hl : news.length = m * sz) (h1 : ∀ u ∈ news, u.oneCell' = true) (hmax : n + m ≤ maxLen) (hb : (n + m) * bytes ≤ 140737488355328) (hH : H.Perm (C ++ D))
    (k : ∀ v' C' O, Own v' (n + m) (xs ++ news) e sz C' → (∀ u' m' ys, R0 u' m' ys C → ys.length ≤ xs.length → R0 u' m' ys (C' ++ O)) → K (.value v') (C' ++ (O ++ D))) : Hd P ⟨d, .call ⟨.builtin .append, #[x, y], #[T, T]⟩, ty, pos, aft, g⟩ l H K := fun a w R kn s => by
  have s' : Sat w (C ++ (D ++ R)) := by have := s.perm (hH.append_right R); simpa using this
  obtain ⟨v', w', C', O, hr, ho, hs', hk, hn⟩ := run_append_keep (ty := ty) (D := D ++ R) hT hE hz hsz own (src.mono fun c hc => by simp at hc ⊢; rcases hc with hc | hc <;> simp [hc]) hl h1 hmax hb s'
  refine ⟨.value v', w', C' ++ (O ++ D), ?_, by simpa using hs', hk, k v' C' O ho hn⟩
  simp [execOp, resolve, invoke, builtin, kn.ev hx, kn.ev hy, hr]

/-- bytes from the begin of a block -/
def B0 (u : Value) (l : List (BitVec 8)) (C : List Ck) : Prop := R0 u l.length (bc l) C
theorem B0.bs {u : Value} {l : List (BitVec 8)} {C : List Ck} (h : B0 u l C) : Bs u l C := R0.rs h
theorem B0.mono {u : Value} {l : List (BitVec 8)} {A B : List Ck} (h : B0 u l A) (s : ∀ c ∈ A, c ∈ B) : B0 u l B := R0.mono h s
theorem Ob.b0 {T : TypeId} {u : Value} {l : List (BitVec 8)} {C : List Ck} (h : Ob T u l C) : B0 u l C := Own.r0 h
theorem Hd.appendBKeep {x y : Operand} {T e : TypeId} {zs : List Value} {v u : Value} {a b : List (BitVec 8)} {C D : List Ck} {K : Next → List Ck → Prop} (hT : sliceOf P T = some e) (hE : elemInfo P e = some (1, zs, 1)) (hz : zs.length = 1)
    (hx : ev l x = some v) (hy : ev l y = some u) (own : Ob e v a C) (src : Bs u b (C ++ D)) (hmax : a.length + b.length ≤ 140737488355328) (hH : H.Perm (C ++ D))
    (k : ∀ v' C' O, Ob e v' (a ++ b) C' → (∀ u' c, B0 u' c C → c.length ≤ a.length → B0 u' c (C' ++ O)) → K (.value v') (C' ++ (O ++ D))) : Hd P ⟨d, .call ⟨.builtin .append, #[x, y], #[T, T]⟩, ty, pos, aft, g⟩ l H K :=
  Hd.appendKeep hT hE hz (by omega) hx hy own src (by rw [bc_length]; omega) (bc_one b) (by simp only [maxLen]; omega) (by omega) hH fun v' C' O h hn => k v' C' O (by
    show Own _ _ _ _ _ _
    rw [List.length_append, bc_append]; exact h) fun u' c h hc => hn u' c.length (bc c) h (by rw [bc_length, bc_length]; exact hc)

/-- a list of slices of our own, opened at a place -/
theorem Obs.at {T : TypeId} {vs : List Value} {ls : List (List (BitVec 8))} {D : List Ck} (h : Obs T vs ls D) : ∀ i (hi : i < ls.length), ∃ D1 C D2 v, D = D1 ++ (C ++ D2) ∧ vs[i]? = some v ∧ Ob T v ls[i] C ∧ ∀ l' C', Ob T v l' C' → Obs T vs (ls.set i l') (D1 ++ (C' ++ D2)) := by
  induction h with
  | nil => intro i hi; simp at hi
  | @cons v l C vs ls D h1 h2 ih =>
    intro i hi
    cases i with
    | zero => exact ⟨[], C, D, v, rfl, rfl, h1, fun l' C' h' => by simpa using Obs.cons h' h2⟩
    | succ i =>
      obtain ⟨D1, Ci, D2, u, rfl, h3, h4, h5⟩ := ih i (by simpa using hi)
      exact ⟨C ++ D1, Ci, D2, u, by simp, by simpa using h3, by simpa using h4, fun l' C' h' => by
        have := Obs.cons h1 (h5 l' C' h')
        simpa using this⟩
/-- the first of a list of slices of our own -/
theorem Obs.first {T : TypeId} {vs : List Value} {ls : List (List (BitVec 8))} {D : List Ck} {i : Nat} (hi : i < ls.length) (h : Obs T (vs.drop i) (ls.drop i) D) : ∃ v C E, vs[i]? = some v ∧ Ob T v ls[i] C ∧ Obs T (vs.drop (i + 1)) (ls.drop (i + 1)) E ∧ D = C ++ E := by
  have hl : ls.drop i = ls[i] :: ls.drop (i + 1) := List.drop_eq_getElem_cons hi
  have hv : i < vs.length := by have := h.length; simp at this; omega
  have hvs : vs.drop i = vs[i] :: vs.drop (i + 1) := List.drop_eq_getElem_cons hv
  rw [hl, hvs] at h
  cases h with
  | cons h1 h2 => exact ⟨_, _, _, List.getElem?_eq_getElem hv, h1, h2, rfl⟩

end Go.SL
