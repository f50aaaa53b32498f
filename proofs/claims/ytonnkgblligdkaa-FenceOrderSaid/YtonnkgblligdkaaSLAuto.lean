/-
  Rules that find their blocks by themselves; states that are told by what turns in them.
-/
import Derived.Test.YtonnkgblligdkaaSLMap
set_option linter.unusedVariables false
set_option linter.unusedSimpArgs false
namespace Go.SL

variable {P : Program} {l : Sl} {H : List Ck} {d : Option Nat} {ty : TypeId} {pos : String} {aft : Array Edge} {g : Option (Nat × Bool)}

/-! ### blocks found -/
/-- a block taken out of the blocks: what is left -/
structure Fr (H : List Ck) (x : Ck) (D : List Ck) : Prop where
  p : H.Perm (x :: D)
/-- blocks parted -/
structure Sp (H C D : List Ck) : Prop where
  p : H.Perm (C ++ D)
theorem Fr.here {x : Ck} {D : List Ck} : Fr (x :: D) x D := ⟨List.Perm.refl _⟩
theorem Fr.fc {x y : Ck} {H D : List Ck} (h : Fr H x D) : Fr (y :: H) x (y :: D) := ⟨(List.Perm.cons y h.p).trans (List.Perm.swap x y D)⟩
theorem Fr.fa {x : Ck} {A H D : List Ck} (h : Fr H x D) : Fr (A ++ H) x (A ++ D) := ⟨(List.Perm.append_left A h.p).trans List.perm_middle⟩
theorem Fr.al {x : Ck} {A B H D : List Ck} (h : Fr (A ++ (B ++ H)) x D) : Fr ((A ++ B) ++ H) x D := ⟨by rw [List.append_assoc]; exact h.p⟩
theorem Sp.here {C D : List Ck} : Sp (C ++ D) C D := ⟨List.Perm.refl _⟩
theorem Sp.sn {H : List Ck} : Sp H H [] := ⟨by rw [List.append_nil]⟩
theorem Sp.s0 {H : List Ck} : Sp H [] H := ⟨List.Perm.refl _⟩
theorem Sp.sc {y : Ck} {A H D : List Ck} (h : Sp H A D) : Sp (y :: H) A (y :: D) := ⟨(List.Perm.cons y h.p).trans (List.perm_middle).symm⟩
theorem Sp.sa {A B H D : List Ck} (h : Sp H A D) : Sp (B ++ H) A (B ++ D) := ⟨by
  refine (List.Perm.append_left B h.p).trans ?_
  rw [← List.append_assoc, ← List.append_assoc]
  exact List.Perm.append_right D List.perm_append_comm⟩
theorem Sp.sx {x : Ck} {C H H1 D : List Ck} (h : Fr H x H1) (h' : Sp H1 C D) : Sp H (x :: C) D := ⟨h.p.trans (List.Perm.cons x h'.p)⟩
theorem Sp.s2 {A B H H1 D : List Ck} (h : Sp H A H1) (h' : Sp H1 B D) : Sp H (A ++ B) D := ⟨by
  rw [List.append_assoc]
  exact h.p.trans (List.Perm.append_left A h'.p)⟩
theorem Sp.al {A B H C D : List Ck} (h : Sp (A ++ (B ++ H)) C D) : Sp ((A ++ B) ++ H) C D := ⟨by rw [List.append_assoc]; exact h.p⟩
/-- the same blocks in another order -/
theorem Sp.all {H C : List Ck} (h : Sp H C []) : H.Perm C := by simpa using h.p

/-- all blocks of one are among the other's -/
def Gr (A B : List Ck) : Prop := ∀ c ∈ A, c ∈ B
theorem Gr.refl {A : List Ck} : Gr A A := fun _ h => h
theorem Gr.trans {A B C : List Ck} (h : Gr A B) (k : Gr B C) : Gr A C := fun c hc => k c (h c hc)
theorem Gr.cons {A B : List Ck} {x : Ck} (h : Gr A B) : Gr A (x :: B) := fun c hc => List.mem_cons_of_mem _ (h c hc)
theorem Gr.app {A B D : List Ck} (h : Gr A B) : Gr A (D ++ B) := fun c hc => List.mem_append_right _ (h c hc)
theorem Gr.left {A B D : List Ck} (h : Gr A B) : Gr A (B ++ D) := fun c hc => List.mem_append_left _ (h c hc)
theorem Gr.nil {A : List Ck} : Gr [] A := fun _ h => by cases h
theorem Gr.both {A B D : List Ck} (h : Gr A D) (k : Gr B D) : Gr (A ++ B) D := fun c hc => by
  rcases List.mem_append.1 hc with hc | hc
  · exact h c hc
  · exact k c hc
theorem Gr.put {A D : List Ck} {x : Ck} (h : x ∈ D) (k : Gr A D) : Gr (x :: A) D := fun c hc => by
  rcases List.mem_cons.1 hc with rfl | hc
  · exact h
  · exact k c hc

theorem foldl_set (vs : List Value) (o : Nat) : ∀ (k : Nat) (cs : List Value), o + k + vs.length ≤ cs.length →
    ((vs.zipIdx k).foldl (fun (cs : Array Value) (p : Value × Nat) => cs.setIfInBounds (o + p.2) p.1) cs.toArray) = (cs.take (o + k) ++ (vs ++ cs.drop (o + k + vs.length))).toArray := by
  induction vs with
  | nil => intro k cs h; simp
  | cons v vs ih =>
    intro k cs h
    simp only [List.length_cons] at h
    simp only [List.zipIdx_cons, List.foldl_cons, List.setIfInBounds_toArray]
    obtain ⟨A, x, B, rfl, hA⟩ : ∃ A x B, cs = A ++ x :: B ∧ A.length = o + k := ⟨cs.take (o + k), cs[o + k], cs.drop (o + k + 1), by rw [← List.drop_eq_getElem_cons (by omega), List.take_append_drop], by simp; omega⟩
    rw [ih (k + 1) _ (by simp at h ⊢; omega)]
    have e : (A ++ x :: B).set (o + k) v = A ++ v :: B := by rw [← hA]; simp
    rw [e, show o + (k + 1) = A.length + 1 by omega, show o + k = A.length by omega, show A.length + 1 + vs.length = A.length + (vs.length + 1) by omega]
    have e3 : List.take (A.length + 1) (A ++ v :: B) = A ++ [v] := by rw [List.take_length_add_append]; rfl
    rw [e3]
    simp [List.length_cons]

/-! ### operations on memory -/
variable {K : Next → List Ck → Prop}
theorem Hd.loadAll {T : TypeId} {x : Operand} {b n : Nat} {cs : List Value} {T' : TypeId} {fr : Nat × Nat} {ex : Bool} (hT : isAggOf P T n = true) (hx : ev l x = some (.pointer (some ⟨b, 0, none⟩)))
    (hm : (⟨b, .cells cs.toArray T' fr, ex⟩ : Ck) ∈ H) (hn : cs.length = n) (k : K (.value (.agg cs.toArray)) H) : Hd P ⟨d, .load T x, ty, pos, aft, g⟩ l H K :=
  Hd.loadA hT hx hm hn (by subst hn; simp) k
theorem Hd.box1 {T : TypeId} {x : Operand} {v : Value} (hx : ev l x = some v) (h1 : v.oneCell' = true) (k : ∀ b, K (.value (.pointer (some ⟨b, 0, none⟩))) (row b [v] T :: H)) : Hd P ⟨d, .box T x, ty, pos, aft, g⟩ l H K := by
  have hc : v.cells.toList = [v] := by cases v <;> first | rfl | cases h1
  exact Hd.box hx fun b => by rw [hc]; exact k b
theorem Hd.boxA {T : TypeId} {x : Operand} {vs : List Value} (hx : ev l x = some (.agg vs.toArray)) (k : ∀ b, K (.value (.pointer (some ⟨b, 0, none⟩))) (row b vs T :: H)) : Hd P ⟨d, .box T x, ty, pos, aft, g⟩ l H K :=
  Hd.box hx fun b => k b
theorem Hd.store1s {T : TypeId} {x y : Operand} {b o : Nat} {cs cs' : List Value} {T' : TypeId} {v : Value} {D : List Ck} (hT : szOf P T = some 1) (hx : ev l x = some (.pointer (some ⟨b, o, none⟩))) (hy : ev l y = some v)
    (h1 : v.oneCell' = true) (hm : Fr H (row b cs T') D) (hc : Nat.blt o cs.length = true) (he : cs.set o v = cs') (k : K .skip (row b cs' T' :: D)) : Hd P ⟨d, .store T x y, ty, pos, aft, g⟩ l H K := by
  subst he
  exact Hd.store1 hT hx hy h1 hm.p (by simpa using hc) k
theorem Hd.storeAll {T : TypeId} {x y : Operand} {b n : Nat} {cs vs : List Value} {T' : TypeId} {D : List Ck} (hT : szOf P T = some n) (hx : ev l x = some (.pointer (some ⟨b, 0, none⟩))) (hy : ev l y = some (.agg vs.toArray))
    (hn : vs.length = n) (h1 : ∀ u ∈ vs, u.oneCell' = true) (hm : Fr H (row b cs T') D) (hc : cs.length = n) (k : K .skip (row b vs T' :: D)) : Hd P ⟨d, .store T x y, ty, pos, aft, g⟩ l H K := by
  subst hn
  refine Hd.storeN hT hx hy (by simp [Value.cells]) (by simpa [Value.cells] using h1) hm.p (by omega) ?_
  have : splice cs 0 (Value.agg vs.toArray).cells.toList = vs := by simp [splice, Value.cells, ← hc]
  rw [this]
  exact k
/-- a part of a block is written -/
theorem Hd.storeP {T : TypeId} {x y : Operand} {b o n : Nat} {cs cs' vs : List Value} {T' : TypeId} {D : List Ck} (hT : szOf P T = some n) (hx : ev l x = some (.pointer (some ⟨b, o, none⟩))) (hy : ev l y = some (.agg vs.toArray))
    (hn : vs.length = n) (h1 : ∀ u ∈ vs, u.oneCell' = true) (hm : Fr H (row b cs T') D) (hc : o + n ≤ cs.length) (he : cs.take o ++ (vs ++ cs.drop (o + n)) = cs') (k : K .skip (row b cs' T' :: D)) : Hd P ⟨d, .store T x y, ty, pos, aft, g⟩ l H K := by
  subst hn
  refine Hd.storeN hT hx hy (by simp [Value.cells]) (by simpa [Value.cells] using h1) hm.p hc ?_
  have : splice cs o (Value.agg vs.toArray).cells.toList = cs' := by rw [← he]; simp [splice, Value.cells]
  rw [this]
  exact k

/-- '[]T{x}', x of several cells -/
theorem Hd.buildA {T e sz : TypeId} {zs : List Value} {x : Operand} {vs : List Value} (hT : sliceOf P T = some e) (hS : szOf P e = some sz) (hz : zeroOf P e = some zs) (hzl : zs.length = sz) (hx : ev l x = some (.agg vs.toArray)) (hn : vs.length = sz) (hs : Nat.ble (1 * sz) 16777216 = true)
    (k : ∀ b, K (.value (.slice (some ⟨b, 0, none⟩) 1 1)) (row b vs e :: H)) : Hd P ⟨d, .buildSlice T 1 #[(0, x)], ty, pos, aft, g⟩ l H K := by
  refine Hd.buildSlice (parts := [(0, x)]) (vs := [(0, .agg vs.toArray)]) (cells := vs) hT hS hz (by simp [hx]) hs ?_ k
  subst hzl
  have hc : (Value.agg vs.toArray).cells = vs.toArray := rfl
  have hf := foldl_set vs 0 0 ((List.range zs.length).map fun i => zs[i % zs.length]!) (by simp [hn])
  simp only [Nat.zero_add, List.take_zero, List.nil_append, hn] at hf
  rw [List.drop_eq_nil_of_le (by simp), List.append_nil] at hf
  have e1 : (Array.range (1 * zs.length)).map (zs.toArray[· % zs.toArray.size]!) = ((List.range zs.length).map fun i => zs[i % zs.length]!).toArray := by
    apply Array.ext'
    simp [Array.toList_range]
  have e2 : vs.toArray.zipIdx = (vs.zipIdx 0).toArray := by apply Array.ext'; simp
  simp only [Instr.fill, hc, e1]
  rw [if_neg (by simp [hn])]
  simp only [Nat.zero_mul, Nat.zero_add]
  rw [e2, List.foldl_toArray, hf]
/-- 'append(x, y)', y a struct: the row that was built for it lies in memory -/
theorem Hd.appendRow {x y : Operand} {T e sz bytes : Nat} {zs : List Value} {v : Value} {n rb : Nat} {xs vs : List Value} {C D : List Ck} (hT : sliceOf P T = some e) (hE : elemInfo P e = some (sz, zs, bytes)) (hz : zs.length = sz) (hsz : 0 < sz)
    (hx : ev l x = some v) (hy : ev l y = some (.slice (some ⟨rb, 0, none⟩) 1 1)) (own : Own v n xs e sz C) (hH : Sp H C D) (hm : row rb vs e ∈ D) (hl : vs.length = sz) (h1 : ∀ u ∈ vs, u.oneCell' = true) (hmax : n + 1 ≤ maxLen) (hb : (n + 1) * bytes ≤ 140737488355328)
    (k : ∀ v' C', Own v' (n + 1) (xs ++ vs) e sz C' → K (.value v') (C' ++ D)) : Hd P ⟨d, .call ⟨.builtin .append, #[x, y], #[T, T]⟩, ty, pos, aft, g⟩ l H K :=
  Hd.append hT hE hz hsz hx hy own (m := 1) (news := vs) (.inr ⟨rb, 0, 1, vs, e, (0, 0), true, rfl, Nat.le_refl _, List.mem_append_right _ hm, by simp⟩) (by omega) h1 hmax hb hH.p fun v' C' h _ => k v' C' h

/-! ### struct values -/
theorem Yd.fieldL {x : Operand} {S f o n : Nat} {cs vs : List Value} (hf : fieldPart P S f = some (o, n, true)) (hx : ev l x = some (.agg cs.toArray)) (hv : (cs.drop o).take n = vs) : Yd P ⟨d, .field S x f, ty, pos, aft, g⟩ l (.agg vs.toArray) :=
  Yd.fieldA hf hx (by
    rw [← hv]
    apply Array.ext'
    simp [List.extract_eq_take_drop])
/-- the cells of a struct's parts -/
def fillL : List (Nat × Nat) → List Value → List (Nat × Value) → Option (List Value)
  | _, cs, [] => some cs
  | pl, cs, (i, v) :: r => match pl[i]? with
    | none => none
    | some (o, n) => if v.cells.toList.length = n ∧ o + n ≤ cs.length then fillL pl (cs.take o ++ (v.cells.toList ++ cs.drop (o + n))) r else none
theorem fill_of_fillL (pl : List (Nat × Nat)) : ∀ (vs : List (Nat × Value)) (cs r : List Value), fillL pl cs vs = some r → Instr.fill (pl.toArray[·]?) cs.toArray vs = some r.toArray
  | [], cs, r, h => by simp [fillL] at h; simp [Instr.fill, h]
  | (i, v) :: vs, cs, r, h => by
    simp only [fillL] at h
    cases hp : pl[i]? with
    | none => simp [hp] at h
    | some on =>
      obtain ⟨o, n⟩ := on
      simp only [hp] at h
      split at h
      · rename_i hc
        obtain ⟨h1, h2⟩ := hc
        have h1' : v.cells.size = n := by simpa using h1
        have ih := fill_of_fillL pl vs _ r h
        simp only [List.getElem?_toArray] at ih
        simp only [Instr.fill, List.getElem?_toArray, hp]
        rw [if_neg (by simp [h1']; omega)]
        have hf := foldl_set v.cells.toList o 0 cs (by omega)
        have hz : v.cells.zipIdx = (v.cells.toList.zipIdx 0).toArray := by apply Array.ext'; simp
        rw [hz]
        simp only [List.foldl_toArray]
        rw [hf, Nat.add_zero, h1]
        exact ih
      · cases h
theorem Yd.buildL {T : TypeId} {zs : List Value} {pl : List (Nat × Nat)} {parts : List (Nat × Operand)} {vs : List (Nat × Value)} {cells : List Value} (hP : placesOf P T = some pl) (hz : zeroOf P T = some zs) (hp : (parts.map fun p => (ev l p.2).map fun v => (p.1, v)) = vs.map some)
    (hf : fillL pl zs vs = some cells) : Yd P ⟨d, .build T parts.toArray, ty, pos, aft, g⟩ l (.agg cells.toArray) :=
  Yd.build hP hz hp (fill_of_fillL _ _ _ _ hf)

/-! ### calls whose blocks are found -/
variable {n : Nat} {w0 : World} {R : List Ck} {ops : Array Oper} {Q : Exit → Act → World → Prop}
theorem WL.rf {d : Nat} {op : Op} {ty : TypeId} {pos : String} {aft : Array Edge} {rest : List Oper} {f : FuncId} {args : List Value} {C D : List Ck} {v : Value} (hd : Nat.blt d n = true)
    (he : Ent P ⟨some d, op, ty, pos, aft, none⟩ l f args) (hs : Reads P f args C v) (hH : Sp H C D) (h : WL P n w0 R ops Q rest ((d, v) :: l) H) : WL P n w0 R ops Q (⟨some d, op, ty, pos, aft, none⟩ :: rest) l H :=
  WL.c hd he hs hH.p fun v' C' ⟨h1, h2⟩ => by subst h1 h2; exact WL.blocks H hH.p.symm h
theorem WL.rf0 {op : Op} {ty : TypeId} {pos : String} {aft : Array Edge} {rest : List Oper} {f : FuncId} {args : List Value} {C D : List Ck} {v : Value}
    (he : Ent P ⟨none, op, ty, pos, aft, none⟩ l f args) (hs : Reads P f args C v) (hH : Sp H C D) (h : WL P n w0 R ops Q rest l H) : WL P n w0 R ops Q (⟨none, op, ty, pos, aft, none⟩ :: rest) l H :=
  WL.c0 he hs hH.p fun v' C' ⟨h1, h2⟩ => by subst h1 h2; exact WL.blocks H hH.p.symm h
theorem WL.grf {d j : Nat} {b : Bool} {dj : Nat} {op : Op} {ty : TypeId} {pos : String} {aft : Array Edge} {rest : List Oper} {f : FuncId} {args : List Value} {C D : List Ck} {v : Value} (hj : (ops[j]?).bind (·.dst) = some dj) (hg : getv l dj = some (.bool b)) (hd : Nat.blt d n = true)
    (he : Ent P ⟨some d, op, ty, pos, aft, some (j, b)⟩ l f args) (hs : Reads P f args C v) (hH : Sp H C D) (h : WL P n w0 R ops Q rest ((d, v) :: l) H) : WL P n w0 R ops Q (⟨some d, op, ty, pos, aft, some (j, b)⟩ :: rest) l H :=
  WL.gc hj hg hd he hs hH.p fun v' C' ⟨h1, h2⟩ => by subst h1 h2; exact WL.blocks H hH.p.symm h
theorem WO.rf {fuel : Nat} {listed : Array Bool} {g : Option (Nat × Bool)} {i d : Nat} {op : Op} {ty : TypeId} {pos : String} {aft : Array Edge} {f : FuncId} {args : List Value} {C D : List Ck} {v : Value} (hi : ops[i]? = some ⟨some d, op, ty, pos, aft, g⟩) (hw : Wt ops l ⟨some d, op, ty, pos, aft, g⟩) (hd : Nat.blt d n = true)
    (he : Ent P ⟨some d, op, ty, pos, aft, g⟩ l f args) (hs : Reads P f args C v) (hH : Sp H C D) (h : WA P n w0 R ops Q fuel (listed.setIfInBounds i true) ((d, v) :: l) H) : WO P n w0 R ops Q fuel listed i l H :=
  WO.c hi hw hd he hs hH.p fun v' C' ⟨h1, h2⟩ => by subst h1 h2; exact WA.blocks H hH.p.symm h

theorem WA.part {fuel : Nat} {listed : Array Bool} {t : Nat} {b : Bool} (ht : getv l t = some (.bool b)) (h1 : b = true → WA P n w0 R ops Q fuel listed ((t, .bool true) :: l) H) (h2 : b = false → WA P n w0 R ops Q fuel listed ((t, .bool false) :: l) H) : WA P n w0 R ops Q fuel listed l H := by
  cases b with
  | true => exact WA.renamed ht rfl (h1 rfl)
  | false => exact WA.renamed ht rfl (h2 rfl)
theorem WA.partP {fuel : Nat} {listed : Array Bool} {t : Nat} {p : Prop} [Decidable p] (ht : getv l t = some (.bool (decide p))) (h1 : p → WA P n w0 R ops Q fuel listed ((t, .bool true) :: l) H) (h2 : ¬ p → WA P n w0 R ops Q fuel listed ((t, .bool false) :: l) H) : WA P n w0 R ops Q fuel listed l H :=
  WA.part ht (fun e => h1 (of_decide_eq_true e)) (fun e => h2 (of_decide_eq_false e))

theorem WA.four {fuel : Nat} {listed : Array Bool} {i1 i2 i3 i4 : Nat} (hr : Region.ready .any ops listed = [i1, i2, i3, i4]) (hi1 : WO P n w0 R ops Q fuel listed i1 l H) (hi2 : WO P n w0 R ops Q fuel listed i2 l H) (hi3 : WO P n w0 R ops Q fuel listed i3 l H) (hi4 : WO P n w0 R ops Q fuel listed i4 l H) : WA P n w0 R ops Q (fuel + 1) listed l H :=
  fun a w at_ => wpAny_all hr (by simp) fun q hq => by
    simp at hq
    rcases hq with rfl | rfl | rfl | rfl
    · exact hi1 a w at_
    · exact hi2 a w at_
    · exact hi3 a w at_
    · exact hi4 a w at_
theorem WA.five {fuel : Nat} {listed : Array Bool} {i1 i2 i3 i4 i5 : Nat} (hr : Region.ready .any ops listed = [i1, i2, i3, i4, i5]) (hi1 : WO P n w0 R ops Q fuel listed i1 l H) (hi2 : WO P n w0 R ops Q fuel listed i2 l H) (hi3 : WO P n w0 R ops Q fuel listed i3 l H) (hi4 : WO P n w0 R ops Q fuel listed i4 l H) (hi5 : WO P n w0 R ops Q fuel listed i5 l H) : WA P n w0 R ops Q (fuel + 1) listed l H :=
  fun a w at_ => wpAny_all hr (by simp) fun q hq => by
    simp at hq
    rcases hq with rfl | rfl | rfl | rfl | rfl
    · exact hi1 a w at_
    · exact hi2 a w at_
    · exact hi3 a w at_
    · exact hi4 a w at_
    · exact hi5 a w at_
theorem WA.six {fuel : Nat} {listed : Array Bool} {i1 i2 i3 i4 i5 i6 : Nat} (hr : Region.ready .any ops listed = [i1, i2, i3, i4, i5, i6]) (hi1 : WO P n w0 R ops Q fuel listed i1 l H) (hi2 : WO P n w0 R ops Q fuel listed i2 l H) (hi3 : WO P n w0 R ops Q fuel listed i3 l H) (hi4 : WO P n w0 R ops Q fuel listed i4 l H) (hi5 : WO P n w0 R ops Q fuel listed i5 l H) (hi6 : WO P n w0 R ops Q fuel listed i6 l H) : WA P n w0 R ops Q (fuel + 1) listed l H :=
  fun a w at_ => wpAny_all hr (by simp) fun q hq => by
    simp at hq
    rcases hq with rfl | rfl | rfl | rfl | rfl | rfl
    · exact hi1 a w at_
    · exact hi2 a w at_
    · exact hi3 a w at_
    · exact hi4 a w at_
    · exact hi5 a w at_
    · exact hi6 a w at_
/-- Under a guard that was not asked, where the order is drawn. -/
theorem WA.gu {fuel : Nat} {listed : Array Bool} {i d j dj : Nat} {b : Bool} {op : Op} {ty : TypeId} {pos : String} {aft : Array Edge} (hQ : NoPanic Q) (hi : ops[i]? = some ⟨some d, op, ty, pos, aft, some (j, b)⟩) (hs : Region.noSelect ops = true) (hf : Region.free .any ops listed i = true) (hr : (Region.ready .any ops listed).contains i = true)
    (hj : (ops[j]?).bind (·.dst) = some dj) (hg : getv l dj = some undef) (hd : Nat.blt d n = true) (h : WA P n w0 R ops Q fuel (listed.setIfInBounds i true) ((d, undef) :: l) H) : WA P n w0 R ops Q (fuel + 1) listed l H :=
  fun a w at_ => wpAny_take hi hs hf hr (fun c a w q => absurd q (hQ c _ w)) (.inr ⟨unwanted_undef hj (at_.kn dj _ hg), rfl⟩) (h _ _ (at_.put hd undef))

/-! ### states told by what turns in them -/
/-- what the second list tells, but for the slots ks, the first tells too -/
def Sx (ks : List Nat) (l r : Sl) : Prop := ∀ t v, ks.contains t = false → getv r t = some v → getv l t = some v
theorem Sx.refl {ks : List Nat} {l : Sl} : Sx ks l l := fun _ _ _ h => h
theorem Sx.skip {ks : List Nat} {l r : Sl} {d : Nat} {v : Value} (hk : (ks.contains d || (getv r d).isNone) = true) (h : Sx ks l r) : Sx ks ((d, v) :: l) r := fun t u hc hr => by
  rw [getv_cons]
  by_cases e : d = t
  · subst e
    rw [hc, hr] at hk
    cases hk
  · rw [if_neg e]
    exact h t u hc hr
theorem Sx.put {ks : List Nat} {l r : Sl} {d : Nat} {v : Value} (hv : getv l d = some v) (h : Sx (d :: ks) l r) : Sx ks l ((d, v) :: r) := fun t u hc hr => by
  rw [getv_cons] at hr
  by_cases e : d = t
  · subst e
    rw [if_pos rfl] at hr
    cases hr
    exact hv
  · rw [if_neg e] at hr
    exact h t u (by
      simp only [List.contains_cons, Bool.or_eq_false_iff] at *
      exact ⟨by simp; omega, hc⟩) hr
theorem Sx.same {ks : List Nat} {l r : Sl} {d : Nat} {v : Value} (hv : getv l d = some v) (h : Sx ks l r) : Sx ks l ((d, v) :: r) := fun t u hc hr => by
  rw [getv_cons] at hr
  by_cases e : d = t
  · subst e
    rw [if_pos rfl] at hr
    cases hr
    exact hv
  · rw [if_neg e] at hr
    exact h t u hc hr
theorem At.sx {r : Sl} {a : Act} {w : World} (h : At P n w0 R l H a w) (s : Sx [] l r) : At P n w0 R r H a w := ⟨h.size, h.defers, fun t v hv => h.kn t v (s t v rfl hv), h.sat, h.kept⟩
theorem WC.slotsX {c : Code} (r : Sl) (s : Sx [] l r) (h : WC P n w0 R Q c r H) : WC P n w0 R Q c l H := fun a w i => h a w (i.sx s)

theorem WC.loopK {α : Type} (I : α → Prop) (S : α → Sl) (K : α → List Ck) (μ : α → Nat) {c : Code} (x0 : α) (h0 : I x0) (hl : Sx [] l (S x0 ++ l)) (hH : H.Perm (K x0))
    (round : ∀ x, I x → WC P n w0 R (Exit.then (Again P n w0 R I (fun x => S x ++ l) K μ (μ x)) Q) c (S x ++ l) (K x)) : WC P n w0 R Q (.loop c) l H :=
  WC.loopG I (fun x => S x ++ l) K μ x0 h0 (fun _ _ i => (i.sx hl).perm hH) round
theorem DN.againK {α : Type} {I : α → Prop} {S : α → Sl} {l0 : Sl} {K : α → List Ck} {μ : α → Nat} {m : Nat} (z : α) (hz : I z) (hm : μ z < m) (hl : Sx [] l (S z ++ l0)) (hH : H.Perm (K z)) :
    DN P n w0 R (Exit.then (Again P n w0 R I (fun x => S x ++ l0) K μ m) Q) .normal l H := fun _ _ i => ⟨z, hz, hm, (i.sx hl).perm hH⟩
/-- Behind the code x the states (S, K) are all that is known, beside what was known ahead of it. -/
theorem WC.cutK {α : Type} (I : α → Prop) (S : α → Sl) (K : α → List Ck) {x y : Code} (h : WC P n w0 R (Exit.then (Reach P n w0 R I (fun x => S x ++ l) K) Q) x l H) (h' : ∀ z, I z → WC P n w0 R Q y (S z ++ l) (K z)) :
    WC P n w0 R Q (.seq x y) l H := WC.cut I (fun x => S x ++ l) K h h'
theorem DN.reachK {α : Type} {I : α → Prop} {S : α → Sl} {l0 : Sl} {K : α → List Ck} (z : α) (hz : I z) (hl : Sx [] l (S z ++ l0)) (hH : H.Perm (K z)) :
    DN P n w0 R (Exit.then (Reach P n w0 R I (fun x => S x ++ l0) K) Q) .normal l H := fun _ _ i => ⟨z, hz, (i.sx hl).perm hH⟩
theorem WC.block_cutK {α : Type} (I : α → Prop) (S : α → Sl) (K : α → List Ck) {id : Nat} {c : Code} (h : WC P n w0 R (Exit.inBlock id (Exit.then (Reach P n w0 R I (fun x => S x ++ l) K) Q)) c l H) (h' : ∀ z, I z → DN P n w0 R Q .normal (S z ++ l) (K z)) :
    WC P n w0 R Q (.block id c) l H := WC.block_cut I (fun x => S x ++ l) K h h'

end Go.SL
