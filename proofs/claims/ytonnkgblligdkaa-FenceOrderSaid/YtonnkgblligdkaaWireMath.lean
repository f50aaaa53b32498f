/-
  The plain wires: notes, letters, the net.
-/
import Derived.Test.YtonnkgblligdkaaSLMore5
set_option linter.unusedVariables false
set_option linter.unusedSimpArgs false
namespace Go.SL

/-- a note -/
structure Nt where
  kind : Int
  epoch : BitVec 32
  old : BitVec 32
  lsn : BitVec 64
  tick : BitVec 64
  order : BitVec 32
  step : Int
  undo : Bool
  code : Int
  key : List (BitVec 8)
  data : List (BitVec 8)
def ntc (n : Nt) (vk vd : Value) : List Value :=
  [.int .i64 n.kind, .int .u32 n.epoch.toNat, .int .u32 n.old.toNat, .int .u64 n.lsn.toNat, .int .u64 n.tick.toNat, .int .u32 n.order.toNat, .int .i64 n.step, .bool n.undo, .int .i64 n.code, vk, vd]
/-- the letters of a kind's parts, in the order in which the program asks -/
def nm (k : Int) : List Nat :=
  if k = 1 then [69, 80, 76, 68] else if k = 2 then [69, 76] else if k = 3 then [69, 76] else if k = 4 then [69, 67] else if k = 6 then [69, 67] else if k = 5 then [69, 84, 67] else if k = 7 then [69, 79, 83, 85, 68]
  else if k = 8 then [69, 79, 83, 85, 67, 68] else if k = 9 then [69, 79, 83, 85] else if k = 10 then [75, 68] else if k = 11 then [75] else if k = 12 then [75] else if k = 13 then [79, 67, 75, 68] else []
def nmS (k : Int) : ByteArray := ⟨((nm k).map UInt8.ofNat).toArray⟩
theorem ite_all {p : Prop} [Decidable p] {a b : List Nat} {f : Nat → Bool} (h : a.all f = true) (k : b.all f = true) : (if p then a else b).all f = true := by
  split <;> assumption
theorem nm_small (k : Int) : ∀ x ∈ nm k, x < 128 := by
  have h : (nm k).all (fun x => decide (x < 128)) = true := by
    unfold nm
    repeat (first | rfl | refine ite_all rfl ?_)
  intro x hx
  simpa using List.all_eq_true.1 h x hx
theorem nmS_size (k : Int) : (nmS k).size = (nm k).length := by simp [nmS, ByteArray.size]
theorem nmS_at (k : Int) (i : Nat) (h : i < (nmS k).size) : ((nmS k)[i]'h).toNat = (nm k).getD i 0 := by
  have h2 : i < (nm k).length := by rw [nmS_size] at h; exact h
  have e : (nmS k)[i]'h = UInt8.ofNat ((nm k)[i]) := by
    show (nmS k).data[i]'_ = _
    simp [nmS]
  rw [e]
  have := nm_small k _ (List.getElem_mem h2)
  simp only [List.getD, List.getElem?_eq_getElem h2, Option.getD_some]
  simp
  omega
theorem nmS_small (k : Int) (i : Nat) (h : i < (nmS k).size) : ((nmS k)[i]'h).toNat < 128 := by
  rw [nmS_at]
  have h2 : i < (nm k).length := by rw [nmS_size] at h; exact h
  simp only [List.getD, List.getElem?_eq_getElem h2, Option.getD_some]
  exact nm_small k _ (List.getElem_mem h2)
theorem ntc_one {m : Nt} {vk vd : Value} (h1 : vk.oneCell' = true) (h2 : vd.oneCell' = true) : ∀ u ∈ ntc m vk vd, u.oneCell' = true := by
  intro u hu
  simp only [ntc, List.mem_cons, List.not_mem_nil, or_false] at hu
  rcases hu with rfl | rfl | rfl | rfl | rfl | rfl | rfl | rfl | rfl | rfl | rfl <;> first | rfl | exact h1 | exact h2
theorem nmS_empty (k : Int) : (nmS k = ⟨#[]⟩) ↔ nm k = [] := by
  simp [nmS]
/-- a note without one of its parts -/
def wo (n : Nt) (c : Int) : Nt :=
  if c = 69 then { n with epoch := 0#32 } else if c = 80 then { n with old := 0#32 } else if c = 76 then { n with lsn := 0#64 } else if c = 84 then { n with tick := 0#64 } else if c = 79 then { n with order := 0#32 }
  else if c = 83 then { n with step := 0 } else if c = 85 then { n with undo := false } else if c = 67 then { n with code := 0 } else if c = 75 then { n with key := [] } else if c = 68 then { n with data := [] } else n
def woK (vk : Value) (c : Int) : Value := if c = 75 then .slice none 0 0 else vk
def woD (vd : Value) (c : Int) : Value := if c = 68 then .slice none 0 0 else vd
def restTo (n : Nt) (i : Nat) : Nt := ((nm n.kind).take i).foldl (fun m (c : Nat) => wo m (c : Int)) n
theorem restTo_next (n : Nt) (i : Nat) (h : i < (nm n.kind).length) : restTo n (i + 1) = wo (restTo n i) ((nm n.kind).getD i 0 : Nat) := by
  unfold restTo
  rw [List.take_succ_eq_append_getElem h, List.foldl_append]
  simp [List.getD, h]
def rest (n : Nt) : Nt := restTo n (nm n.kind).length
def moreB (m : Nt) : Bool := decide (0 < (m.epoch.toNat : Int)) || (decide (0 < (m.old.toNat : Int)) || (decide (0 < (m.lsn.toNat : Int)) || (decide (0 < (m.tick.toNat : Int)) || (decide (0 < (m.order.toNat : Int)) || (decide (m.step ≠ 0) || (m.undo || (decide (m.code ≠ 0) || (decide (0 < (m.key.length : Int)) || decide (0 < (m.data.length : Int))))))))))
def farB (n : Nt) : Bool := decide (n.step < 0) || (decide (16 ≤ n.step) || (decide (n.code < 0) || (decide (255 < n.code) || (decide (32 < (n.key.length : Int)) || decide (255 < (n.data.length : Int))))))
def noteBad (n : Nt) : Bool := decide (nm n.kind = []) || (moreB (rest n) || (farB n || (decide (10 ≤ n.kind) && (decide (n.kind ≤ 12) && decide ((n.key.length : Int) = 0)))))
/-- a slice of so many -/
def IsSl (v : Value) (n : Nat) : Prop := ∃ ao c, v = .slice ao n c
theorem IsSl.one {v : Value} {n : Nat} (h : IsSl v n) : v.oneCell' = true := by obtain ⟨_, _, rfl⟩ := h; rfl
theorem IsSl.woK {v : Value} {n : Nt} (h : IsSl v n.key.length) (c : Int) : IsSl (woK v c) (wo n c).key.length := by
  by_cases h75 : c = 75
  · subst h75; exact ⟨none, 0, rfl⟩
  · have e : (wo n c).key = n.key := by
      unfold wo
      repeat' split
      all_goals first | rfl | exact absurd ‹_› h75
    rw [Go.SL.woK, if_neg h75, e]; exact h
theorem IsSl.woD {v : Value} {n : Nt} (h : IsSl v n.data.length) (c : Int) : IsSl (woD v c) (wo n c).data.length := by
  by_cases h68 : c = 68
  · subst h68; exact ⟨none, 0, rfl⟩
  · have e : (wo n c).data = n.data := by
      unfold wo
      repeat' split
      all_goals first | rfl | exact absurd ‹_› h68
    rw [Go.SL.woD, if_neg h68, e]; exact h

/-- a letter -/
structure Lt where
  f : Int
  t : Int
  n : Nt
def ltc (L : Lt) (vk vd : Value) : List Value := .int .i64 L.f :: .int .i64 L.t :: ntc L.n vk vd
theorem ltc_len (L : Lt) (vk vd : Value) : (ltc L vk vd).length = 13 := rfl
/-- letters in a row, each with memory of its own -/
inductive Lts (T : TypeId) : List Value → List Lt → List Ck → Prop
  | nil : Lts T [] [] []
  | cons {L : Lt} {vk vd : Value} {A B : List Ck} {cs : List Value} {ls : List Lt} {D : List Ck} : Ob T vk L.n.key A → Ob T vd L.n.data B → Lts T cs ls D → Lts T (ltc L vk vd ++ cs) (L :: ls) (A ++ (B ++ D))
theorem Lts.len {T : TypeId} {cs : List Value} {ls : List Lt} {D : List Ck} (h : Lts T cs ls D) : cs.length = ls.length * 13 := by
  induction h with
  | nil => rfl
  | cons _ _ _ ih => simp only [List.length_append, ltc_len, ih, List.length_cons]; omega
theorem ltc_one {T : TypeId} {L : Lt} {vk vd : Value} {A B : List Ck} (h1 : Ob T vk L.n.key A) (h2 : Ob T vd L.n.data B) : ∀ u ∈ ltc L vk vd, u.oneCell' = true := by
  have e1 := h1.one_cell
  have e2 := h2.one_cell
  intro u hu
  simp only [ltc, ntc, List.mem_cons, List.not_mem_nil, or_false] at hu
  rcases hu with rfl | rfl | rfl | rfl | rfl | rfl | rfl | rfl | rfl | rfl | rfl | rfl | rfl <;> first | rfl | exact e1 | exact e2
theorem Lts.one {T : TypeId} {cs : List Value} {ls : List Lt} {D : List Ck} (h : Lts T cs ls D) : ∀ u ∈ cs, u.oneCell' = true := by
  induction h with
  | nil => intro u hu; cases hu
  | cons h1 h2 _ ih =>
    intro u hu
    rcases List.mem_append.1 hu with hu | hu
    · exact ltc_one h1 h2 u hu
    · exact ih u hu
theorem Lts.append {T : TypeId} {cs cs' : List Value} {ls ls' : List Lt} {D D' : List Ck} (h : Lts T cs ls D) (k : Lts T cs' ls' D') : Lts T (cs ++ cs') (ls ++ ls') (D ++ D') := by
  induction h with
  | nil => exact k
  | cons h1 h2 _ ih =>
    rw [List.append_assoc, List.cons_append, List.append_assoc, List.append_assoc]
    exact .cons h1 h2 ih
theorem Lts.one' {T : TypeId} {L : Lt} {vk vd : Value} {A B : List Ck} (h1 : Ob T vk L.n.key A) (h2 : Ob T vd L.n.data B) : Lts T (ltc L vk vd) [L] (A ++ B) := by
  have := Lts.cons h1 h2 Lts.nil
  simpa using this
/-- one letter of a row, and the others -/
theorem Lts.at {T : TypeId} {cs : List Value} {ls : List Lt} {D : List Ck} (h : Lts T cs ls D) : ∀ (i : Nat) (hi : i < ls.length), ∃ vk vd A B D1 D2, D = D1 ++ (A ++ (B ++ D2)) ∧ (cs.drop (i * 13)).take 13 = ltc ls[i] vk vd ∧ Ob T vk ls[i].n.key A ∧ Ob T vd ls[i].n.data B ∧
    Lts T (cs.take (i * 13) ++ cs.drop ((i + 1) * 13)) (ls.eraseIdx i) (D1 ++ D2) := by
  induction h with
  | nil => intro i hi; simp at hi
  | @cons L vk vd A B cs ls D h1 h2 h3 ih =>
    intro i hi
    cases i with
    | zero =>
      refine ⟨vk, vd, A, B, [], D, rfl, ?_, h1, h2, ?_⟩
      · simp [List.take_append, ltc_len]
        rfl
      · have e : (ltc L vk vd ++ cs).drop 13 = cs := by rw [List.drop_append_of_le_length (by rw [ltc_len]; omega)]; rfl
        simpa [e] using h3
    | succ i =>
      obtain ⟨vk', vd', A', B', D1, D2, rfl, g1, g2, g3, g4⟩ := ih i (by simpa using hi)
      have e1 : (ltc L vk vd ++ cs).drop ((i + 1) * 13) = cs.drop (i * 13) := by
        rw [show (i + 1) * 13 = (ltc L vk vd).length + i * 13 by rw [ltc_len]; omega, List.drop_length_add_append]
      have e2 : (ltc L vk vd ++ cs).drop ((i + 1 + 1) * 13) = cs.drop ((i + 1) * 13) := by
        rw [show (i + 1 + 1) * 13 = (ltc L vk vd).length + (i + 1) * 13 by rw [ltc_len]; omega, List.drop_length_add_append]
      have e3 : (ltc L vk vd ++ cs).take ((i + 1) * 13) = ltc L vk vd ++ cs.take (i * 13) := by
        rw [show (i + 1) * 13 = (ltc L vk vd).length + i * 13 by rw [ltc_len]; omega, List.take_length_add_append]
      refine ⟨vk', vd', A', B', A ++ (B ++ D1), D2, by simp, ?_, g2, g3, ?_⟩
      · rw [e1]; exact g1
      · rw [e2, e3, List.append_assoc, List.append_assoc, List.append_assoc]
        exact .cons h1 h2 g4

/-- a net -/
structure Wn where
  n : Int
  ls : List Lt
  cut : List Int
  clk : List (BitVec 64)
def uc (l : List (BitVec 64)) : List Value := l.map fun x => .int .u64 x.toNat
theorem uc_len (l : List (BitVec 64)) : (uc l).length = l.length := by simp [uc]
/-- a net that lies at p -/
def WAt (TW TL TB p : Nat) (W : Wn) (C : List Ck) : Prop :=
  ∃ vl Cl cs D, C = row p (.int .i64 W.n :: vl :: (ic W.cut ++ uc W.clk)) TW :: (Cl ++ D) ∧ Own vl W.ls.length cs TL 13 Cl ∧ Lts TB cs W.ls D
structure WInv (W : Wn) : Prop where
  n : 1 ≤ W.n ∧ W.n ≤ 6
  cut : W.cut.length = 36
  clk : W.clk.length = 6
  few : W.ls.length ≤ 200
  way : ∀ L ∈ W.ls, 0 ≤ L.f ∧ L.f < W.n ∧ 0 ≤ L.t ∧ L.t < W.n
  small : ∀ L ∈ W.ls, L.n.key.length ≤ 32 ∧ L.n.data.length ≤ 255
def cutAt (W : Wn) (f t : Int) : Int := W.cut.getD (f.toNat * 6 + t.toNat) 0
def isNode (W : Wn) (k : Int) : Bool := decide (0 ≤ k) && decide (k < W.n)
def openB (W : Wn) (L : Lt) : Bool := decide (cutAt W L.f L.t = 0)

/-- a note that says little -/
def ackL (f t : Int) (n : BitVec 64) : Lt := ⟨f, t, ⟨2, 1#32, 0#32, n, 0#64, 0#32, 0, false, 0, [], []⟩⟩
def zeroL : Lt := ⟨0, 0, ⟨0, 0#32, 0#32, 0#64, 0#64, 0#32, 0, false, 0, [], []⟩⟩
/-- is there a letter? -/
def thereB (W : Wn) (k : Int) : Bool := decide (0 ≤ k) && decide (k < (W.ls.length : Int))
def atW (W : Wn) (k : Int) : Lt := W.ls.getD k.toNat zeroL
def outW (W : Wn) (k : Int) : Wn := if thereB W k then { W with ls := W.ls.eraseIdx k.toNat } else W
def pickB (W : Wn) (k : Int) : Bool := thereB W k && openB W (atW W k)
def pickL (W : Wn) (k : Int) : Lt := if pickB W k then atW W k else zeroL
def lookL (W : Wn) (k : Int) : Lt := if thereB W k then atW W k else zeroL
def sendE (W : Wn) (L : Lt) : Int := if isNode W L.f = false ∨ isNode W L.t = false ∨ noteBad L.n = true then 2 else if 200 ≤ (W.ls.length : Int) then 5 else 0
def sendW (W : Wn) (L : Lt) : Wn := if sendE W L = 0 ∧ openB W L = true then { W with ls := W.ls ++ [L] } else W
def copyB (W : Wn) (k : Int) : Bool := thereB W k && decide ((W.ls.length : Int) < 200)
def copyW (W : Wn) (k : Int) : Wn := if copyB W k then { W with ls := W.ls ++ [atW W k] } else W
def lateW (W : Wn) (k : Int) : Wn := if thereB W k then { W with ls := W.ls.eraseIdx k.toNat ++ [atW W k] } else W
def cutE (W : Wn) (f t : Int) : Int := if isNode W f = false ∨ isNode W t = false then 2 else 0
def cutW (W : Wn) (f t : Int) (b : Bool) : Wn := if cutE W f t = 0 then { W with cut := W.cut.set (f.toNat * 6 + t.toNat) (if b then 1 else 0) } else W
def tickE (W : Wn) (k : Int) : Int := if isNode W k = false then 2 else 0
def tickV (W : Wn) (k : Int) : BitVec 64 := if isNode W k = false then 0#64 else W.clk.getD k.toNat 0#64 + 1#64
def tickW (W : Wn) (k : Int) : Wn := if isNode W k = false then W else { W with clk := W.clk.set k.toNat (W.clk.getD k.toNat 0#64 + 1#64) }
def clockV (W : Wn) (k : Int) : BitVec 64 := if isNode W k = false then 0#64 else W.clk.getD k.toNat 0#64

end Go.SL
