/-
  The plain purse: accounts, payments of orders.
-/
import Derived.Test.YtllfnigodikbaaaKeyMap
import Derived.Test.YtllfnigodikbaaaSLSort
set_option linter.unusedVariables false
set_option linter.unusedSimpArgs false
namespace Go.SL

structure Au where
  name : ByteArray
  money : Int
  held : Int
deriving DecidableEq
structure Py where
  o : BitVec 32
  name : ByteArray
  n : Int
  st : Int
deriving DecidableEq
structure Aq where
  k : Int
  o : BitVec 32
  name : ByteArray
  n : Int
deriving DecidableEq
def cellsU (a : Au) : List Value := [.string a.name, .int .i64 a.money, .int .i64 a.held]
def cellsP (x : Py) : List Value := [.int .u32 x.o.toNat, .string x.name, .int .i64 x.n, .int .i64 x.st]
def cellsQ (a : Aq) : List Value := [.int .i64 a.k, .int .u32 a.o.toNat, .string a.name, .int .i64 a.n]
def encU (a : Au) : Value := .agg #[.string a.name, .int .i64 a.money, .int .i64 a.held]
def encP (x : Py) : Value := .agg #[.int .u32 x.o.toNat, .string x.name, .int .i64 x.n, .int .i64 x.st]
def zeroU : Au := ⟨⟨#[]⟩, 0, 0⟩
def zeroP : Py := ⟨0#32, ⟨#[]⟩, 0, 0⟩
instance : Inhabited Au := ⟨zeroU⟩
instance : Inhabited Py := ⟨zeroP⟩
theorem cellsU_len (g : Au) : (cellsU g).length = 3 := rfl
theorem cellsP_len (g : Py) : (cellsP g).length = 4 := rfl
theorem cellsQ_len (g : Aq) : (cellsQ g).length = 4 := rfl
theorem cellsU_one (g : Au) : ∀ v ∈ cellsU g, v.oneCell' = true := by
  intro v hv
  simp only [cellsU, List.mem_cons, List.not_mem_nil, or_false] at hv
  rcases hv with rfl | rfl | rfl <;> rfl
theorem cellsP_one (g : Py) : ∀ v ∈ cellsP g, v.oneCell' = true := by
  intro v hv
  simp only [cellsP, List.mem_cons, List.not_mem_nil, or_false] at hv
  rcases hv with rfl | rfl | rfl | rfl <;> rfl
theorem injU (a b : Au) (h : (kStr.kv a.name, encU a) = (kStr.kv b.name, encU b)) : a = b := by
  cases a; cases b
  simp only [kStr, encU, Prod.mk.injEq, Value.string.injEq, Value.agg.injEq, Array.mk.injEq, List.cons.injEq, Value.int.injEq, true_and, and_true] at h
  obtain ⟨_, rfl, rfl, rfl⟩ := h
  rfl
theorem injP (a b : Py) (h : (kU32.kv a.o, encP a) = (kU32.kv b.o, encP b)) : a = b := by
  cases a; cases b
  simp only [kU32, encP, Prod.mk.injEq, Value.string.injEq, Value.agg.injEq, Array.mk.injEq, List.cons.injEq, Value.int.injEq, true_and, and_true] at h
  obtain ⟨h1, h2, rfl, rfl, rfl⟩ := h
  congr 1
  exact BitVec.eq_of_toNat_eq (by omega)
def cfU (x y : Au) : Int := cmpS x.name y.name
def cfP (x y : Py) : Int := if x.o.toNat < y.o.toNat then -1 else 1
def uLt (a b : BitVec 32) : Bool := decide (a.toNat < b.toNat)
theorem uLt_tri (a b : BitVec 32) : uLt a b = true ∨ a = b ∨ uLt b a = true := by
  unfold uLt
  rcases Nat.lt_trichotomy a.toNat b.toNat with h | h | h
  · exact .inl (by simpa using h)
  · exact .inr (.inl (BitVec.eq_of_toNat_eq h))
  · exact .inr (.inr (by simpa using h))
theorem uLt_irrefl (a : BitVec 32) : uLt a a = false := by simp [uLt]
theorem uLt_trans (a b c : BitVec 32) (h1 : uLt a b = true) (h2 : uLt b c = true) : uLt a c = true := by
  simp only [uLt, decide_eq_true_eq] at *
  omega
theorem ltU (x y : Au) : Go.Proofs.ltOf cfU x y = sLt x.name y.name := by
  unfold Go.Proofs.ltOf cfU
  rw [Bool.eq_iff_iff, decide_eq_true_eq]
  exact cmpS_lt _ _
theorem ltP (x y : Py) : Go.Proofs.ltOf cfP x y = uLt x.o y.o := by
  unfold Go.Proofs.ltOf cfP uLt
  split <;> simp [*]
theorem swoU : Go.Sort.SWO (Go.Proofs.ltOf cfU) := by
  refine ⟨fun x => by rw [ltU]; exact sLt_irrefl _, fun x y z h1 h2 => ?_, fun x y z h1 h2 => ?_⟩
  · rw [ltU] at *; exact sLt_trans h1 h2
  · rw [ltU] at *
    rcases sLt_tri y.name x.name with h | h | h
    · cases h3 : sLt x.name z.name with
      | false => rfl
      | true => have := sLt_trans h h3; rw [h2] at this; cases this
    · rw [← h]; exact h2
    · rw [h] at h1; cases h1
theorem swoP : Go.Sort.SWO (Go.Proofs.ltOf cfP) := by
  refine ⟨fun x => by rw [ltP]; exact uLt_irrefl _, fun x y z h1 h2 => ?_, fun x y z h1 h2 => ?_⟩
  · rw [ltP] at *; exact uLt_trans _ _ _ h1 h2
  · rw [ltP] at *
    simp only [uLt, decide_eq_false_iff_not] at *
    omega

def acc (K : List Au) (nm : ByteArray) : Au := (findK Au.name K nm).getD zeroU
def moneyOf (K : List Au) (nm : ByteArray) : Int := (acc K nm).money
def heldU (K : List Au) (nm : ByteArray) : Int := (acc K nm).held
/-- an account's money, and what is held, more or less -/
def adjU (K : List Au) (nm : ByteArray) (dm dh : Int) : List Au := putK Au.name K ⟨nm, moneyOf K nm + dm, heldU K nm + dh⟩
def sumP (L : List Py) (nm : ByteArray) (s : Int) : Int := (L.map fun x => if x.name = nm ∧ x.st = s then x.n else 0).sum
def authB (K : List Au) (L : List Py) (o : BitVec 32) (nm : ByteArray) (n : Int) : Bool := decide (o ≠ 0#32) && (decide (1 ≤ n) && (!(findK Py.o L o).isSome && decide (n ≤ moneyOf K nm - heldU K nm)))
def authKs (K : List Au) (L : List Py) (o : BitVec 32) (nm : ByteArray) (n : Int) : List Au := if authB K L o nm n then adjU K nm 0 n else K
def authLs (K : List Au) (L : List Py) (o : BitVec 32) (nm : ByteArray) (n : Int) : List Py := if authB K L o nm n then L ++ [⟨o, nm, n, 1⟩] else L
def vdP (b : Bool) : Int := if b then 1 else 2
def turnB (L : List Py) (o : BitVec 32) (s : Int) : Bool := match findK Py.o L o with | none => false | some x => decide (x.st = s)
def turnKs (K : List Au) (L : List Py) (o : BitVec 32) (s dm dh : Int) : List Au := match findK Py.o L o with | none => K | some x => if x.st = s then adjU K x.name (dm * x.n) (dh * x.n) else K
def turnLs (L : List Py) (o : BitVec 32) (s t : Int) : List Py := match findK Py.o L o with | none => L | some x => if x.st = s then putK Py.o L ⟨x.o, x.name, x.n, t⟩ else L
theorem adjU_acc (K : List Au) (nm nm' : ByteArray) (dm dh : Int) : acc (adjU K nm dm dh) nm' = if nm' = nm then ⟨nm, moneyOf K nm + dm, heldU K nm + dh⟩ else acc K nm' := by
  unfold adjU acc
  rw [putK_find]
  split <;> rfl
theorem adjU_names {K : List Au} {nm : ByteArray} (h : (findK Au.name K nm).isSome) (dm dh : Int) : (adjU K nm dm dh).map Au.name = K.map Au.name := by
  unfold adjU
  rw [putK_keys, if_pos h]
theorem find_namesU {K : List Au} {nm : ByteArray} (h : nm ∈ K.map Au.name) : (findK Au.name K nm).isSome := by
  cases hf : findK Au.name K nm with
  | some x => rfl
  | none =>
    obtain ⟨g, hg, rfl⟩ := List.mem_map.1 h
    exact absurd rfl (findK_none hf g hg)
theorem acc_of {K : List Au} (hn : (K.map Au.name).Nodup) {g : Au} (hg : g ∈ K) : acc K g.name = g := by
  unfold acc
  rw [findK_of hn hg]
  rfl
theorem acc_in {K : List Au} {nm : ByteArray} (h : nm ∈ K.map Au.name) : (acc K nm).name = nm := by
  unfold acc
  obtain ⟨x, hx⟩ := Option.isSome_iff_exists.1 (find_namesU h)
  rw [hx]
  exact (findK_mem hx).2
theorem acc_none {K : List Au} {nm : ByteArray} (h : ¬ nm ∈ K.map Au.name) : acc K nm = zeroU := by
  unfold acc
  cases hf : findK Au.name K nm with
  | none => rfl
  | some g => exact absurd (List.mem_map.2 ⟨g, (findK_mem hf).1, (findK_mem hf).2⟩) h
theorem sumP_snoc (L : List Py) (x : Py) (nm : ByteArray) (s : Int) : sumP (L ++ [x]) nm s = sumP L nm s + if x.name = nm ∧ x.st = s then x.n else 0 := by simp [sumP]
theorem sumP_nonneg {L : List Py} (h : ∀ x ∈ L, 1 ≤ x.n) (nm : ByteArray) (s : Int) : 0 ≤ sumP L nm s := by
  induction L with
  | nil => simp [sumP]
  | cons b L ih =>
    have h1 := ih (fun c hc => h c (List.mem_cons_of_mem _ hc))
    have h2 := h b List.mem_cons_self
    simp only [sumP, List.map_cons, List.sum_cons] at *
    split <;> omega
theorem mem_le_sumP {L : List Py} (h : ∀ x ∈ L, 1 ≤ x.n) {x : Py} (hx : x ∈ L) : x.n ≤ sumP L x.name x.st := by
  induction L with
  | nil => cases hx
  | cons b L ih =>
    have hh := fun c hc => h c (List.mem_cons_of_mem b hc)
    have h2 := h b List.mem_cons_self
    have h3 := sumP_nonneg hh x.name x.st
    rcases List.mem_cons.1 hx with rfl | hx
    · simp only [sumP, List.map_cons, List.sum_cons] at *
      rw [if_pos (by simp)]; omega
    · have := ih hh hx
      simp only [sumP, List.map_cons, List.sum_cons] at *
      split <;> omega
theorem putP_here : ∀ {L : List Py} (hn : (L.map Py.o).Nodup) {x y : Py} (hx : x ∈ L) (he : y.o = x.o) (f : Py → Int), ((putK Py.o L y).map f).sum = (L.map f).sum - f x + f y := by
  intro L hn x y hx he f
  have hf : (findK Py.o L y.o).isSome = true := by rw [he, findK_of hn hx]; rfl
  unfold putK
  rw [if_pos hf, List.map_map]
  clear hf
  induction L with
  | nil => cases hx
  | cons b L ih =>
    simp only [List.map_cons, List.nodup_cons] at hn
    simp only [List.map_cons, List.sum_cons, Function.comp]
    rcases List.mem_cons.1 hx with rfl | hx
    · rw [if_pos he]
      have e : L.map (f ∘ fun z => if y.o = z.o then y else z) = L.map f := List.map_congr_left fun z hz => by
        simp only [Function.comp]
        rw [if_neg (fun e => hn.1 (List.mem_map.2 ⟨z, hz, by rw [← e, he]⟩))]
      have e2 : (List.map (fun z => f (if y.o = z.o then y else z)) L) = L.map f := e
      rw [show (L.map (f ∘ fun z => if y.o = z.o then y else z)) = L.map f from e]
      omega
    · have hne : ¬ y.o = b.o := fun e => hn.1 (List.mem_map.2 ⟨x, hx, by rw [← he, e]⟩)
      rw [if_neg hne]
      have := ih hn.2 hx
      simp only [Function.comp_def] at this ⊢
      omega
theorem sumP_put {L : List Py} (hn : (L.map Py.o).Nodup) {x y : Py} (hx : x ∈ L) (he : y.o = x.o) (nm : ByteArray) (s : Int) : sumP (putK Py.o L y) nm s = sumP L nm s - (if x.name = nm ∧ x.st = s then x.n else 0) + (if y.name = nm ∧ y.st = s then y.n else 0) := putP_here hn hx he _
def accB (g : Au) : Prop := g.name ≠ ⟨#[]⟩ ∧ g.name.size ≤ 32 ∧ 0 ≤ g.money ∧ g.money ≤ 1000000000 ∧ g.held = 0
structure PInv (first K : List Au) (L : List Py) : Prop where
  names : K.map Au.name = first.map Au.name
  nd : (first.map Au.name).Nodup
  few : first.length ≤ 50
  ok : ∀ g ∈ first, accB g
  pays : ∀ x ∈ L, 1 ≤ x.n ∧ x.n ≤ 1000000000 ∧ x.o ≠ 0#32 ∧ x.name ∈ first.map Au.name ∧ 1 ≤ x.st ∧ x.st ≤ 3
  keys : (L.map Py.o).Nodup
  sums : ∀ nm, heldU K nm = sumP L nm 1 ∧ moneyOf K nm = moneyOf first nm - sumP L nm 2 ∧ heldU K nm ≤ moneyOf K nm
def AccL (gs : List Au) : Prop := gs.length ≤ 50 ∧ (gs.map Au.name).Nodup ∧ ∀ g ∈ gs, accB g
theorem PInv.knd {first K : List Au} {L : List Py} (h : PInv first K L) : (K.map Au.name).Nodup := by rw [h.names]; exact h.nd
theorem PInv.top {first K : List Au} {L : List Py} (h : PInv first K L) (nm : ByteArray) : 0 ≤ moneyOf first nm ∧ moneyOf first nm ≤ 1000000000 := by
  by_cases hm : nm ∈ first.map Au.name
  · obtain ⟨g, hg, rfl⟩ := List.mem_map.1 hm
    unfold moneyOf
    rw [acc_of h.nd hg]
    exact ⟨(h.ok g hg).2.2.1, (h.ok g hg).2.2.2.1⟩
  · unfold moneyOf
    rw [acc_none hm]
    exact ⟨Int.le_refl _, by decide⟩
theorem PInv.mid {first K : List Au} {L : List Py} (h : PInv first K L) (nm : ByteArray) : 0 ≤ heldU K nm ∧ heldU K nm ≤ moneyOf K nm ∧ moneyOf K nm ≤ 1000000000 ∧ 0 ≤ sumP L nm 1 ∧ sumP L nm 1 ≤ 1000000000 ∧ 0 ≤ sumP L nm 2 ∧ sumP L nm 2 ≤ 1000000000 := by
  have h1 := h.sums nm
  have h2 := h.top nm
  have h3 := sumP_nonneg (fun x hx => (h.pays x hx).1) nm 1
  have h4 := sumP_nonneg (fun x hx => (h.pays x hx).1) nm 2
  omega
theorem PInv.start {first : List Au} (h : AccL first) : PInv first first [] := by
  refine ⟨rfl, h.2.1, h.1, h.2.2, fun h hh => (by cases hh), by simp, fun nm => ?_⟩
  simp only [sumP, List.map_nil, List.sum_nil]
  unfold heldU moneyOf
  by_cases hm : nm ∈ first.map Au.name
  · obtain ⟨g, hg, rfl⟩ := List.mem_map.1 hm
    rw [acc_of h.2.1 hg]
    have := h.2.2 g hg
    unfold accB at this
    omega
  · rw [acc_none hm]
    exact ⟨rfl, rfl, Int.le_refl _⟩
theorem authB_parts {K : List Au} {L : List Py} {o : BitVec 32} {nm : ByteArray} {n : Int} (hb : authB K L o nm n = true) : o ≠ 0#32 ∧ 1 ≤ n ∧ findK Py.o L o = none ∧ n ≤ moneyOf K nm - heldU K nm ∧ nm ∈ K.map Au.name := by
  unfold authB at hb
  simp only [Bool.and_eq_true, decide_eq_true_eq, Bool.not_eq_true'] at hb
  obtain ⟨ho, hn, hf, hle⟩ := hb
  refine ⟨ho, hn, by simpa using hf, hle, ?_⟩
  apply Classical.byContradiction
  intro hc
  unfold moneyOf heldU at hle
  rw [acc_none hc] at hle
  simp only [zeroU] at hle
  omega
theorem auth_no {K : List Au} {L : List Py} {o : BitVec 32} {nm : ByteArray} {n : Int} (hb : authB K L o nm n = false) : authKs K L o nm n = K ∧ authLs K L o nm n = L := by
  unfold authKs authLs
  rw [hb]
  exact ⟨rfl, rfl⟩
theorem auth_yes {K : List Au} {L : List Py} {o : BitVec 32} {nm : ByteArray} {n : Int} (hb : authB K L o nm n = true) : authKs K L o nm n = adjU K nm 0 n ∧ authLs K L o nm n = L ++ [⟨o, nm, n, 1⟩] := by
  unfold authKs authLs
  rw [hb]
  exact ⟨rfl, rfl⟩
theorem PInv.auth {first K : List Au} {L : List Py} (h : PInv first K L) (o : BitVec 32) (nm : ByteArray) (n : Int) : PInv first (authKs K L o nm n) (authLs K L o nm n) := by
  cases hb : authB K L o nm n with
  | false => rw [(auth_no hb).1, (auth_no hb).2]; exact h
  | true =>
    rw [(auth_yes hb).1, (auth_yes hb).2]
    obtain ⟨ho, hn, hf, hle, hin⟩ := authB_parts hb
    have hm0 := h.mid nm
    refine ⟨by rw [adjU_names (find_namesU hin)]; exact h.names, h.nd, h.few, h.ok, ?_, ?_, fun nm' => ?_⟩
    · intro x hx
      rcases List.mem_append.1 hx with hx | hx
      · exact h.pays x hx
      · rw [List.mem_singleton.1 hx]
        exact ⟨hn, (by show n ≤ 1000000000; omega), ho, by rw [← h.names]; exact hin, by show (1 : Int) ≤ 1; omega, by show (1 : Int) ≤ 3; omega⟩
    · rw [List.map_append, List.nodup_append]
      refine ⟨h.keys, by simp, ?_⟩
      intro x hx y hy
      obtain ⟨c, hc, rfl⟩ := List.mem_map.1 hx
      simp only [List.map_cons, List.map_nil, List.mem_singleton] at hy
      subst hy
      exact findK_none hf c hc
    · have h1 := h.sums nm'
      rw [sumP_snoc, sumP_snoc]
      unfold heldU moneyOf at *
      rw [adjU_acc]
      by_cases e : nm' = nm
      · subst e
        simp only [if_true, true_and]
        unfold heldU moneyOf
        rw [if_neg (by decide : ¬ (1 : Int) = 2)]
        omega
      · have e2 : ¬ nm = nm' := fun x => e x.symm
        simp only [if_neg e, e2, false_and, if_false]
        omega
/-- how an account goes with a turn of its payment -/
def turnOk (s t dm dh : Int) : Prop := (s = 1 ∧ t = 2 ∧ dm = -1 ∧ dh = -1) ∨ (s = 1 ∧ t = 3 ∧ dm = 0 ∧ dh = -1) ∨ (s = 2 ∧ t = 3 ∧ dm = 1 ∧ dh = 0)
theorem turn_no {K : List Au} {L : List Py} {o : BitVec 32} {s : Int} (t dm dh : Int) (hb : turnB L o s = false) : turnKs K L o s dm dh = K ∧ turnLs L o s t = L := by
  unfold turnB at hb
  unfold turnKs turnLs
  cases hf : findK Py.o L o with
  | none => exact ⟨rfl, rfl⟩
  | some x =>
    rw [hf] at hb
    simp only [decide_eq_false_iff_not] at hb
    simp only [if_neg hb, and_self]
theorem turn_yes {K : List Au} {L : List Py} {o : BitVec 32} {s : Int} (t dm dh : Int) (hb : turnB L o s = true) : ∃ x, x ∈ L ∧ x.o = o ∧ x.st = s ∧ findK Py.o L o = some x ∧ turnKs K L o s dm dh = adjU K x.name (dm * x.n) (dh * x.n) ∧ turnLs L o s t = putK Py.o L ⟨x.o, x.name, x.n, t⟩ := by
  unfold turnB at hb
  unfold turnKs turnLs
  cases hf : findK Py.o L o with
  | none => rw [hf] at hb; cases hb
  | some x =>
    rw [hf] at hb
    simp only [decide_eq_true_eq] at hb
    obtain ⟨h1, h2⟩ := findK_mem hf
    exact ⟨x, h1, h2, hb, rfl, by simp only [if_pos hb], by simp only [if_pos hb]⟩
theorem putP_keys {L : List Py} (hn : (L.map Py.o).Nodup) {x : Py} (hx : x ∈ L) (y : Py) (he : y.o = x.o) : (putK Py.o L y).map Py.o = L.map Py.o := by
  rw [putK_keys, he, findK_of hn hx]; rfl
theorem PInv.turn {first K : List Au} {L : List Py} (h : PInv first K L) (o : BitVec 32) (s t dm dh : Int) (hok : turnOk s t dm dh) : PInv first (turnKs K L o s dm dh) (turnLs L o s t) := by
  cases hb : turnB L o s with
  | false => rw [(turn_no t dm dh hb).1, (turn_no (K := K) t dm dh hb).2]; exact h
  | true =>
    obtain ⟨x, hx, hxo, hxs, hf, eK, eL⟩ := turn_yes (K := K) t dm dh hb
    rw [eK, eL]
    have hp := h.pays x hx
    have hin : x.name ∈ K.map Au.name := by rw [h.names]; exact hp.2.2.2.1
    have hkeys : (putK Py.o L ⟨x.o, x.name, x.n, t⟩).map Py.o = L.map Py.o := putP_keys h.keys hx _ rfl
    refine ⟨by rw [adjU_names (find_namesU hin)]; exact h.names, h.nd, h.few, h.ok, ?_, by rw [hkeys]; exact h.keys, fun nm' => ?_⟩
    · intro y hy
      rcases putK_mem hy with rfl | ⟨hy, _⟩ | ⟨hy, _⟩
      · refine ⟨hp.1, hp.2.1, hp.2.2.1, hp.2.2.2.1, ?_, ?_⟩
        · show 1 ≤ t
          rcases hok with ⟨_, rfl, _⟩ | ⟨_, rfl, _⟩ | ⟨_, rfl, _⟩ <;> decide
        · show t ≤ 3
          rcases hok with ⟨_, rfl, _⟩ | ⟨_, rfl, _⟩ | ⟨_, rfl, _⟩ <;> decide
      · exact h.pays y hy
      · exact h.pays y hy
    · have h1 := h.sums nm'
      have hle := mem_le_sumP (fun x hx => (h.pays x hx).1) hx
      have hmid := h.mid x.name
      have hp1 := sumP_put (y := ⟨x.o, x.name, x.n, t⟩) h.keys hx rfl nm' 1
      have hp2 := sumP_put (y := ⟨x.o, x.name, x.n, t⟩) h.keys hx rfl nm' 2
      rw [hp1, hp2]
      unfold heldU moneyOf at *
      rw [adjU_acc]
      by_cases e : nm' = x.name
      · subst e
        simp only [if_true, true_and]
        unfold heldU moneyOf
        rw [hxs] at hle ⊢
        rcases hok with ⟨rfl, rfl, rfl, rfl⟩ | ⟨rfl, rfl, rfl, rfl⟩ | ⟨rfl, rfl, rfl, rfl⟩
        · simp only [if_true, show ¬ (1 : Int) = 2 by decide, show ¬ (2 : Int) = 1 by decide, if_false]; omega
        · simp only [if_true, show ¬ (1 : Int) = 2 by decide, show ¬ (3 : Int) = 1 by decide, show ¬ (3 : Int) = 2 by decide, if_false]; omega
        · simp only [if_true, show ¬ (2 : Int) = 1 by decide, show ¬ (3 : Int) = 1 by decide, show ¬ (3 : Int) = 2 by decide, if_false]; omega
      · have e2 : ¬ x.name = nm' := fun z => e z.symm
        simp only [if_neg e, e2, false_and, if_false]
        omega
/-- the purse that lies at p -/
def PsAt (TD p : Nat) (K : List Au) (L : List Py) (C : List Ck) : Prop :=
  ∃ b1 b2 C1 C2, C = row p [.map (some b1), .map (some b2)] TD :: (C1 ++ C2) ∧ MpG kStr b1 (kvs Au.name encU K) C1 ∧ MpG kU32 b2 (kvs Py.o encP L) C2
theorem lkU (K : List Au) (nm : ByteArray) : (if false = true then Value.tuple #[(getG (kvs Au.name encU K) nm).getD (.agg #[.string ⟨#[]⟩, .int .i64 0, .int .i64 0]), .bool (getG (kvs Au.name encU K) nm).isSome] else (getG (kvs Au.name encU K) nm).getD (.agg #[.string ⟨#[]⟩, .int .i64 0, .int .i64 0])) = .agg (cellsU (acc K nm)).toArray := by
  rw [if_neg (by simp), getG_kvs]
  unfold acc
  cases findK Au.name K nm <;> rfl
theorem lkU2 (K : List Au) (nm : ByteArray) : (if true = true then Value.tuple #[(getG (kvs Au.name encU K) nm).getD (.agg #[.string ⟨#[]⟩, .int .i64 0, .int .i64 0]), .bool (getG (kvs Au.name encU K) nm).isSome] else (getG (kvs Au.name encU K) nm).getD (.agg #[.string ⟨#[]⟩, .int .i64 0, .int .i64 0])) = .tuple #[.agg (cellsU (acc K nm)).toArray, .bool (findK Au.name K nm).isSome] := by
  rw [if_pos rfl, getG_kvs]
  unfold acc
  cases findK Au.name K nm <;> rfl
theorem lkP2 (L : List Py) (o : BitVec 32) : (if true = true then Value.tuple #[(getG (kvs Py.o encP L) o).getD (.agg #[.int .u32 0, .string ⟨#[]⟩, .int .i64 0, .int .i64 0]), .bool (getG (kvs Py.o encP L) o).isSome] else (getG (kvs Py.o encP L) o).getD (.agg #[.int .u32 0, .string ⟨#[]⟩, .int .i64 0, .int .i64 0])) = .tuple #[.agg (cellsP ((findK Py.o L o).getD zeroP)).toArray, .bool (findK Py.o L o).isSome] := by
  rw [if_pos rfl, getG_kvs]
  cases findK Py.o L o <;> rfl
theorem putU (K : List Au) (a : Au) (nm : ByteArray) (he : nm = a.name) : setG (kvs Au.name encU K) nm (.agg #[.string a.name, .int .i64 a.money, .int .i64 a.held]) = kvs Au.name encU (putK Au.name K a) := setG_kvs encU K a nm _ he rfl
theorem putP (L : List Py) (x : Py) (o : BitVec 32) (he : o = x.o) : setG (kvs Py.o encP L) o (.agg #[.int .u32 x.o.toNat, .string x.name, .int .i64 x.n, .int .i64 x.st]) = kvs Py.o encP (putK Py.o L x) := setG_kvs encP L x o _ he rfl
theorem putP_new {L : List Py} {x : Py} (h : findK Py.o L x.o = none) : putK Py.o L x = L ++ [x] := by
  unfold putK
  rw [h]
  rfl
theorem putU_new {L : List Au} {x : Au} (h : findK Au.name L x.name = none) : putK Au.name L x = L ++ [x] := by
  unfold putK
  rw [h]
  rfl
theorem once_moreU {L : List Au} {g : Au} (h : (L.map Au.name).Nodup) (hn : findK Au.name L g.name = none) : ((L ++ [g]).map Au.name).Nodup := by
  rw [List.map_append, List.nodup_append]
  refine ⟨h, by simp, ?_⟩
  intro x hx y hy
  obtain ⟨c, hc, rfl⟩ := List.mem_map.1 hx
  simp only [List.map_cons, List.map_nil, List.mem_singleton] at hy
  subst hy
  exact findK_none hn c hc
theorem twice_noU {gs : List Au} {i : Nat} (hi : i < gs.length) (h : (findK Au.name (gs.take i) gs[i].name).isSome = true) : ¬ (gs.map Au.name).Nodup := by
  intro hn
  obtain ⟨g, hg⟩ := Option.isSome_iff_exists.1 h
  obtain ⟨h1, h2⟩ := findK_mem hg
  obtain ⟨j, hj, rfl⟩ := List.getElem_of_mem h1
  simp only [List.length_take] at hj
  rw [List.getElem_take] at h2
  have := List.pairwise_iff_getElem.1 hn j i (by simp; omega) (by simpa using hi) (by omega)
  simp at this
  exact this h2

end Go.SL
