/-
  The plain stock: goods of kinds, holds of orders.
-/
import Derived.Test.YtdbbkodjhmfjfaaKeyMap
import Derived.Test.YtdbbkodjhmfjfaaSLSort
set_option linter.unusedVariables false
set_option linter.unusedSimpArgs false
namespace Go.SL

structure Gd where
  name : ByteArray
  free : Int
  gone : Int
deriving DecidableEq
structure Ho where
  o : BitVec 32
  name : ByteArray
  n : Int
deriving DecidableEq
def encG (g : Gd) : Value := .agg #[.int .i64 g.free, .int .i64 g.gone]
def encH (h : Ho) : Value := .agg #[.int .u32 h.o.toNat, .string h.name, .int .i64 h.n]
/-- a good as it is told -/
def cellsG (g : Gd) : List Value := [.string g.name, .int .i64 g.free]
def cellsH (h : Ho) : List Value := [.int .u32 h.o.toNat, .string h.name, .int .i64 h.n]
def freeOf (K : List Gd) (nm : ByteArray) : Int := ((findK Gd.name K nm).map Gd.free).getD 0
def goneOf (K : List Gd) (nm : ByteArray) : Int := ((findK Gd.name K nm).map Gd.gone).getD 0
/-- of a kind more or fewer are free, gone -/
def adj (K : List Gd) (nm : ByteArray) (df dg : Int) : List Gd := putK Gd.name K ⟨nm, freeOf K nm + df, goneOf K nm + dg⟩
def sumN (L : List Ho) (nm : ByteArray) : Int := (L.map fun h => if h.name = nm then h.n else 0).sum
def holdB (K : List Gd) (L : List Ho) (o : BitVec 32) (nm : ByteArray) (n : Int) : Bool := decide (o ≠ 0#32) && (decide (1 ≤ n) && (!(findK Ho.o L o).isSome && decide (n ≤ freeOf K nm)))
def holdKs (K : List Gd) (L : List Ho) (o : BitVec 32) (nm : ByteArray) (n : Int) : List Gd := if holdB K L o nm n then adj K nm (-n) 0 else K
def holdLs (K : List Gd) (L : List Ho) (o : BitVec 32) (nm : ByteArray) (n : Int) : List Ho := if holdB K L o nm n then L ++ [⟨o, nm, n⟩] else L
def vd (b : Bool) : Int := if b then 1 else 2
def leaveKs (K : List Gd) (L : List Ho) (o : BitVec 32) (gone : Bool) : List Gd := match findK Ho.o L o with | none => K | some h => if gone then adj K h.name 0 h.n else adj K h.name h.n 0
theorem adj_free (K : List Gd) (nm nm' : ByteArray) (df dg : Int) : freeOf (adj K nm df dg) nm' = if nm' = nm then freeOf K nm + df else freeOf K nm' := by
  unfold adj
  rw [freeOf, putK_find]
  split
  · rfl
  · rfl
theorem adj_gone (K : List Gd) (nm nm' : ByteArray) (df dg : Int) : goneOf (adj K nm df dg) nm' = if nm' = nm then goneOf K nm + dg else goneOf K nm' := by
  unfold adj
  rw [goneOf, putK_find]
  split
  · rfl
  · rfl
theorem adj_names {K : List Gd} {nm : ByteArray} (h : (findK Gd.name K nm).isSome) (df dg : Int) : (adj K nm df dg).map Gd.name = K.map Gd.name := by
  unfold adj
  rw [putK_keys, if_pos h]
theorem find_names {K : List Gd} {nm : ByteArray} (h : nm ∈ K.map Gd.name) : (findK Gd.name K nm).isSome := by
  cases hf : findK Gd.name K nm with
  | some x => rfl
  | none =>
    obtain ⟨g, hg, rfl⟩ := List.mem_map.1 h
    exact absurd rfl (findK_none hf g hg)
theorem names_find {K : List Gd} {nm : ByteArray} (h : (findK Gd.name K nm).isSome) : nm ∈ K.map Gd.name := by
  obtain ⟨g, hg⟩ := Option.isSome_iff_exists.1 h
  obtain ⟨h1, h2⟩ := findK_mem hg
  exact List.mem_map.2 ⟨g, h1, h2⟩
theorem free_of {K : List Gd} (hn : (K.map Gd.name).Nodup) {g : Gd} (hg : g ∈ K) : freeOf K g.name = g.free ∧ goneOf K g.name = g.gone := by
  unfold freeOf goneOf
  rw [findK_of hn hg]
  exact ⟨rfl, rfl⟩
theorem free_none {K : List Gd} {nm : ByteArray} (h : ¬ nm ∈ K.map Gd.name) : freeOf K nm = 0 ∧ goneOf K nm = 0 := by
  have : findK Gd.name K nm = none := by
    cases hf : findK Gd.name K nm with
    | none => rfl
    | some g => exact absurd (names_find (by rw [hf]; rfl)) h
  unfold freeOf goneOf
  rw [this]
  exact ⟨rfl, rfl⟩
theorem sumN_snoc (L : List Ho) (h : Ho) (nm : ByteArray) : sumN (L ++ [h]) nm = sumN L nm + if h.name = nm then h.n else 0 := by simp [sumN]
theorem sumN_del {L : List Ho} (hn : (L.map Ho.o).Nodup) {o : BitVec 32} {h : Ho} (hf : findK Ho.o L o = some h) (nm : ByteArray) : sumN (delK Ho.o L o) nm + (if h.name = nm then h.n else 0) = sumN L nm := by
  induction L with
  | nil => cases hf
  | cons c L ih =>
    simp only [List.map_cons, List.nodup_cons] at hn
    unfold findK delK sumN at *
    by_cases e : o = c.o
    · rw [List.find?_cons_of_pos (by simpa using e)] at hf
      obtain rfl : c = h := by simpa using hf
      rw [List.filter_cons_of_neg (by simp [e]), List.filter_eq_self.2 (fun x hx => by
        simp only [decide_eq_true_eq]
        intro e2
        exact hn.1 (List.mem_map.2 ⟨x, hx, by rw [← e2, e]⟩))]
      simp only [List.map_cons, List.sum_cons]
      omega
    · rw [List.find?_cons_of_neg (by simpa using e)] at hf
      rw [List.filter_cons_of_pos (by simpa using e)]
      have := ih hn.2 hf
      simp only [List.map_cons, List.sum_cons]
      omega
theorem sumN_nonneg {L : List Ho} (h : ∀ x ∈ L, 1 ≤ x.n) (nm : ByteArray) : 0 ≤ sumN L nm := by
  induction L with
  | nil => simp [sumN]
  | cons b L ih =>
    have h1 := ih (fun c hc => h c (List.mem_cons_of_mem _ hc))
    have h2 := h b List.mem_cons_self
    simp only [sumN, List.map_cons, List.sum_cons] at *
    split <;> omega
/-- goods that may be -/
def goodB (g : Gd) : Prop := g.name ≠ ⟨#[]⟩ ∧ g.name.size ≤ 32 ∧ 0 ≤ g.free ∧ g.free ≤ 1000000
structure SInv (first K : List Gd) (L : List Ho) : Prop where
  names : K.map Gd.name = first.map Gd.name
  nd : (first.map Gd.name).Nodup
  few : first.length ≤ 50
  ok : ∀ g ∈ first, goodB g ∧ g.gone = 0
  holds : ∀ h ∈ L, 1 ≤ h.n ∧ h.o ≠ 0#32 ∧ h.name ∈ first.map Gd.name
  keys : (L.map Ho.o).Nodup
  sums : ∀ nm, 0 ≤ freeOf K nm ∧ 0 ≤ goneOf K nm ∧ freeOf K nm + goneOf K nm + sumN L nm = freeOf first nm
/-- goods that may be, all -/
def GoodL (gs : List Gd) : Prop := gs.length ≤ 50 ∧ (gs.map Gd.name).Nodup ∧ ∀ g ∈ gs, goodB g
theorem SInv.top {first K : List Gd} {L : List Ho} (h : SInv first K L) (nm : ByteArray) : freeOf first nm ≤ 1000000 := by
  by_cases hm : nm ∈ first.map Gd.name
  · obtain ⟨g, hg, rfl⟩ := List.mem_map.1 hm
    rw [(free_of h.nd hg).1]
    exact (h.ok g hg).1.2.2.2
  · rw [(free_none hm).1]; omega
theorem SInv.knd {first K : List Gd} {L : List Ho} (h : SInv first K L) : (K.map Gd.name).Nodup := by rw [h.names]; exact h.nd
theorem SInv.start {first : List Gd} (h1 : first.length ≤ 50) (h2 : (first.map Gd.name).Nodup) (h3 : ∀ g ∈ first, goodB g ∧ g.gone = 0) : SInv first first [] := by
  refine ⟨rfl, h2, h1, h3, fun h hh => (by cases hh), by simp, fun nm => ?_⟩
  by_cases hm : nm ∈ first.map Gd.name
  · obtain ⟨g, hg, rfl⟩ := List.mem_map.1 hm
    have h4 := free_of h2 hg
    have h5 := h3 g hg
    have h6 : 0 ≤ g.free := h5.1.2.2.1
    simp only [sumN, List.map_nil, List.sum_nil]
    rw [h4.1, h4.2, h5.2]
    omega
  · have := free_none hm
    simp only [sumN, List.map_nil, List.sum_nil]
    omega
theorem SInv.hold {first K : List Gd} {L : List Ho} (h : SInv first K L) (o : BitVec 32) (nm : ByteArray) (n : Int) : SInv first (holdKs K L o nm n) (holdLs K L o nm n) := by
  unfold holdKs holdLs
  cases hb : holdB K L o nm n with
  | false => exact h
  | true =>
    simp only [if_true]
    unfold holdB at hb
    simp only [Bool.and_eq_true, decide_eq_true_eq, Bool.not_eq_true'] at hb
    obtain ⟨ho, hn, hf, hle⟩ := hb
    have hf' : findK Ho.o L o = none := by simpa using hf
    have hin : nm ∈ K.map Gd.name := by
      apply Classical.byContradiction
      intro hc
      have := (free_none hc).1
      omega
    refine ⟨by rw [adj_names (find_names hin)]; exact h.names, h.nd, h.few, h.ok, ?_, ?_, fun nm' => ?_⟩
    · intro x hx
      rcases List.mem_append.1 hx with hx | hx
      · exact h.holds x hx
      · rw [List.mem_singleton.1 hx]
        exact ⟨hn, ho, by rw [← h.names]; exact hin⟩
    · rw [List.map_append, List.nodup_append]
      refine ⟨h.keys, by simp, ?_⟩
      intro x hx y hy
      obtain ⟨c, hc, rfl⟩ := List.mem_map.1 hx
      simp only [List.map_cons, List.map_nil, List.mem_singleton] at hy
      subst hy
      exact findK_none hf' c hc
    · have h1 := h.sums nm'
      rw [adj_free, adj_gone, sumN_snoc]
      by_cases e : nm' = nm
      · subst e
        simp only [if_true]
        omega
      · have e2 : ¬ nm = nm' := fun x => e x.symm
        simp only [if_neg e, if_neg e2]
        omega
theorem SInv.leave {first K : List Gd} {L : List Ho} (h : SInv first K L) (o : BitVec 32) (gone : Bool) : SInv first (leaveKs K L o gone) (delK Ho.o L o) := by
  unfold leaveKs
  cases hf : findK Ho.o L o with
  | none =>
    have e : delK Ho.o L o = L := by
      unfold delK
      rw [List.filter_eq_self]
      intro x hx
      have := findK_none hf x hx
      simp only [decide_eq_true_eq]
      exact fun e => this e.symm
    rw [e]; exact h
  | some x =>
    obtain ⟨hx, hxo⟩ := findK_mem hf
    have hh := h.holds x hx
    have hin : x.name ∈ K.map Gd.name := by rw [h.names]; exact hh.2.2
    have hnm : ∀ df dg, (adj K x.name df dg).map Gd.name = first.map Gd.name := fun df dg => by rw [adj_names (find_names hin)]; exact h.names
    have hsum : ∀ nm', sumN (delK Ho.o L o) nm' + (if x.name = nm' then x.n else 0) = sumN L nm' := fun nm' => sumN_del h.keys hf nm'
    have hrest : ∀ y ∈ delK Ho.o L o, 1 ≤ y.n ∧ y.o ≠ 0#32 ∧ y.name ∈ first.map Gd.name := fun y hy => h.holds y (delK_mem.1 hy).1
    cases gone
    · refine ⟨hnm _ _, h.nd, h.few, h.ok, hrest, delK_nodup h.keys o, fun nm' => ?_⟩
      have h1 := h.sums nm'
      have h2 := hsum nm'
      simp only [Bool.false_eq_true, if_false]
      rw [adj_free, adj_gone]
      by_cases e : nm' = x.name
      · subst e
        simp only [if_true] at h2 ⊢
        omega
      · have e2 : ¬ x.name = nm' := fun z => e z.symm
        simp only [if_neg e, if_neg e2] at h2 ⊢
        omega
    · refine ⟨hnm _ _, h.nd, h.few, h.ok, hrest, delK_nodup h.keys o, fun nm' => ?_⟩
      have h1 := h.sums nm'
      have h2 := hsum nm'
      simp only [if_true]
      rw [adj_free, adj_gone]
      by_cases e : nm' = x.name
      · subst e
        simp only [if_true] at h2 ⊢
        omega
      · have e2 : ¬ x.name = nm' := fun z => e z.symm
        simp only [if_neg e, if_neg e2] at h2 ⊢
        omega
theorem SInv.mid {first K : List Gd} {L : List Ho} (h : SInv first K L) (nm : ByteArray) : 0 ≤ freeOf K nm ∧ freeOf K nm ≤ 1000000 ∧ 0 ≤ goneOf K nm ∧ goneOf K nm ≤ 1000000 ∧ 0 ≤ sumN L nm ∧ sumN L nm ≤ 1000000 := by
  have h1 := h.sums nm
  have h2 := h.top nm
  have h3 := sumN_nonneg (fun x hx => (h.holds x hx).1) nm
  omega
theorem SInv.nle {first K : List Gd} {L : List Ho} (h : SInv first K L) {x : Ho} (hx : x ∈ L) : 1 ≤ x.n ∧ x.n ≤ 1000000 := by
  have h1 := sumN_del h.keys (findK_of h.keys hx) x.name
  have h2 := sumN_nonneg (L := delK Ho.o L x.o) (fun y hy => (h.holds y (delK_mem.1 hy).1).1) x.name
  have h3 := h.mid x.name
  have h4 := (h.holds x hx).1
  rw [if_pos rfl] at h1
  omega
theorem delK_none {L : List Ho} {o : BitVec 32} (hf : findK Ho.o L o = none) : delK Ho.o L o = L := by
  unfold delK
  rw [List.filter_eq_self]
  intro x hx
  have := findK_none hf x hx
  simp only [decide_eq_true_eq]
  exact fun e => this e.symm
/-- the stock that lies at p -/
def StAt (TD p : Nat) (K : List Gd) (L : List Ho) (C : List Ck) : Prop :=
  ∃ b1 b2 C1 C2, C = row p [.map (some b1), .map (some b2)] TD :: (C1 ++ C2) ∧ MpG kStr b1 (kvs Gd.name encG K) C1 ∧ MpG kU32 b2 (kvs Ho.o encH L) C2

theorem lkG (K : List Gd) (nm : ByteArray) : (if false = true then Value.tuple #[(getG (kvs Gd.name encG K) nm).getD (.agg #[.int .i64 0, .int .i64 0]), .bool (getG (kvs Gd.name encG K) nm).isSome] else (getG (kvs Gd.name encG K) nm).getD (.agg #[.int .i64 0, .int .i64 0])) = .agg #[.int .i64 (freeOf K nm), .int .i64 (goneOf K nm)] := by
  rw [if_neg (by simp), getG_kvs]
  unfold freeOf goneOf
  cases findK Gd.name K nm <;> rfl
theorem lkG2 (K : List Gd) (nm : ByteArray) : (if true = true then Value.tuple #[(getG (kvs Gd.name encG K) nm).getD (.agg #[.int .i64 0, .int .i64 0]), .bool (getG (kvs Gd.name encG K) nm).isSome] else (getG (kvs Gd.name encG K) nm).getD (.agg #[.int .i64 0, .int .i64 0])) = .tuple #[.agg #[.int .i64 (freeOf K nm), .int .i64 (goneOf K nm)], .bool (findK Gd.name K nm).isSome] := by
  rw [if_pos rfl, getG_kvs]
  unfold freeOf goneOf
  cases findK Gd.name K nm <;> rfl
def zeroH : Ho := ⟨0#32, ⟨#[]⟩, 0⟩
theorem lkH2 (L : List Ho) (o : BitVec 32) : (if true = true then Value.tuple #[(getG (kvs Ho.o encH L) o).getD (.agg #[.int .u32 0, .string ⟨#[]⟩, .int .i64 0]), .bool (getG (kvs Ho.o encH L) o).isSome] else (getG (kvs Ho.o encH L) o).getD (.agg #[.int .u32 0, .string ⟨#[]⟩, .int .i64 0])) = .tuple #[.agg (cellsH ((findK Ho.o L o).getD zeroH)).toArray, .bool (findK Ho.o L o).isSome] := by
  rw [if_pos rfl, getG_kvs]
  cases findK Ho.o L o <;> rfl
theorem putG (K : List Gd) (nm : ByteArray) (a b : Int) : setG (kvs Gd.name encG K) nm (.agg #[.int .i64 a, .int .i64 b]) = kvs Gd.name encG (putK Gd.name K ⟨nm, a, b⟩) := setG_kvs encG K ⟨nm, a, b⟩ nm _ rfl rfl
theorem putH (L : List Ho) (o : BitVec 32) (nm : ByteArray) (n : Int) (h : findK Ho.o L o = none) : setG (kvs Ho.o encH L) o (.agg #[.int .u32 o.toNat, .string nm, .int .i64 n]) = kvs Ho.o encH (L ++ [⟨o, nm, n⟩]) := by
  have e : setG (kvs Ho.o encH L) o (.agg #[.int .u32 o.toNat, .string nm, .int .i64 n]) = kvs Ho.o encH (putK Ho.o L ⟨o, nm, n⟩) := setG_kvs encH L ⟨o, nm, n⟩ o _ rfl rfl
  rw [e]
  unfold putK
  rw [show (findK Ho.o L (Ho.o ⟨o, nm, n⟩)) = none from h]
  rfl

def cfG (x y : Gd) : Int := cmpS x.name y.name
def cfH (x y : Ho) : Int := if x.o.toNat < y.o.toNat then -1 else 1
def oLt (a b : BitVec 32) : Bool := decide (a.toNat < b.toNat)
theorem oLt_tri (a b : BitVec 32) : oLt a b = true ∨ a = b ∨ oLt b a = true := by
  unfold oLt
  rcases Nat.lt_trichotomy a.toNat b.toNat with h | h | h
  · exact .inl (by simpa using h)
  · exact .inr (.inl (BitVec.eq_of_toNat_eq h))
  · exact .inr (.inr (by simpa using h))
theorem oLt_irrefl (a : BitVec 32) : oLt a a = false := by simp [oLt]
theorem oLt_trans (a b c : BitVec 32) (h1 : oLt a b = true) (h2 : oLt b c = true) : oLt a c = true := by
  simp only [oLt, decide_eq_true_eq] at *
  omega
theorem ltG (x y : Gd) : Go.Proofs.ltOf cfG x y = sLt x.name y.name := by
  unfold Go.Proofs.ltOf cfG
  rw [Bool.eq_iff_iff, decide_eq_true_eq]
  exact cmpS_lt _ _
theorem ltH (x y : Ho) : Go.Proofs.ltOf cfH x y = oLt x.o y.o := by
  unfold Go.Proofs.ltOf cfH oLt
  split <;> simp [*]
theorem swoG : Go.Sort.SWO (Go.Proofs.ltOf cfG) := by
  refine ⟨fun x => by rw [ltG]; exact sLt_irrefl _, fun x y z h1 h2 => ?_, fun x y z h1 h2 => ?_⟩
  · rw [ltG] at *; exact sLt_trans h1 h2
  · rw [ltG] at *
    rcases sLt_tri y.name x.name with h | h | h
    · cases h3 : sLt x.name z.name with
      | false => rfl
      | true => have := sLt_trans h h3; rw [h2] at this; cases this
    · rw [← h]; exact h2
    · rw [h] at h1; cases h1
theorem swoH : Go.Sort.SWO (Go.Proofs.ltOf cfH) := by
  refine ⟨fun x => by rw [ltH]; exact oLt_irrefl _, fun x y z h1 h2 => ?_, fun x y z h1 h2 => ?_⟩
  · rw [ltH] at *; exact oLt_trans _ _ _ h1 h2
  · rw [ltH] at *
    simp only [oLt, decide_eq_false_iff_not] at *
    omega
theorem cellsG_len (g : Gd) : (cellsG g).length = 2 := rfl
theorem cellsH_len (g : Ho) : (cellsH g).length = 3 := rfl
theorem cellsG_one (g : Gd) : ∀ v ∈ cellsG g, v.oneCell' = true := by
  intro v hv
  simp only [cellsG, List.mem_cons, List.not_mem_nil, or_false] at hv
  rcases hv with rfl | rfl <;> rfl
theorem cellsH_one (g : Ho) : ∀ v ∈ cellsH g, v.oneCell' = true := by
  intro v hv
  simp only [cellsH, List.mem_cons, List.not_mem_nil, or_false] at hv
  rcases hv with rfl | rfl | rfl <;> rfl
instance : Inhabited Gd := ⟨⟨⟨#[]⟩, 0, 0⟩⟩
instance : Inhabited Ho := ⟨zeroH⟩
theorem injG (a b : Gd) (h : (kStr.kv a.name, encG a) = (kStr.kv b.name, encG b)) : a = b := by
  cases a; cases b
  simp only [kStr, encG, Prod.mk.injEq, Value.string.injEq, Value.agg.injEq, Array.mk.injEq, List.cons.injEq, Value.int.injEq, true_and, and_true] at h
  obtain ⟨rfl, rfl, rfl⟩ := h
  rfl
theorem injH (a b : Ho) (h : (kU32.kv a.o, encH a) = (kU32.kv b.o, encH b)) : a = b := by
  cases a; cases b
  simp only [kU32, encH, Prod.mk.injEq, Value.string.injEq, Value.agg.injEq, Array.mk.injEq, List.cons.injEq, Value.int.injEq, true_and, and_true] at h
  obtain ⟨h1, h2, rfl, rfl⟩ := h
  congr 1
  exact BitVec.eq_of_toNat_eq (by omega)

theorem once_more {L : List Gd} {g : Gd} (h : (L.map Gd.name).Nodup) (hn : findK Gd.name L g.name = none) : ((L ++ [g]).map Gd.name).Nodup := by
  rw [List.map_append, List.nodup_append]
  refine ⟨h, by simp, ?_⟩
  intro x hx y hy
  obtain ⟨c, hc, rfl⟩ := List.mem_map.1 hx
  simp only [List.map_cons, List.map_nil, List.mem_singleton] at hy
  subst hy
  exact findK_none hn c hc
theorem put_more {b : Nat} {L : List Gd} {g : Gd} {C : List Ck} (h0 : g.gone = 0) (hn : findK Gd.name L g.name = none) (h : MpG kStr b (setG (kvs Gd.name encG L) g.name (.agg #[.int .i64 g.free, .int .i64 0])) C) : MpG kStr b (kvs Gd.name encG (L ++ [g])) C := by
  rw [putG] at h
  have e : putK Gd.name L ⟨g.name, g.free, 0⟩ = L ++ [g] := by
    unfold putK
    rw [show findK Gd.name L (Gd.name ⟨g.name, g.free, 0⟩) = none from hn]
    cases g
    simp only at h0
    subst h0
    rfl
  rwa [e] at h
theorem twice_no {gs : List Gd} {i : Nat} (hi : i < gs.length) (h : (findK Gd.name (gs.take i) gs[i].name).isSome = true) : ¬ (gs.map Gd.name).Nodup := by
  intro hn
  obtain ⟨g, hg⟩ := Option.isSome_iff_exists.1 h
  obtain ⟨h1, h2⟩ := findK_mem hg
  obtain ⟨j, hj, rfl⟩ := List.getElem_of_mem h1
  simp only [List.length_take] at hj
  rw [List.getElem_take] at h2
  have := List.pairwise_iff_getElem.1 hn j i (by simp; omega) (by simpa using hi) (by omega)
  simp at this
  exact this h2

end Go.SL
