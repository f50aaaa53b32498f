/-
  From the form's reading of an argument to what the walks know of it.
-/
import Derived.Test.YtonnkgblligdkaaSLOps
import Derived.ProofKit
import Derived.OpenShut
import Derived.ShutString
import Derived.ChangeOld
import Derived.Below
set_option linter.unusedVariables false
set_option linter.unusedSimpArgs false
namespace Go.SL
open Go.ChangeShapes Go.WideShapes Go.ChangeAt Go.RowKit

/-- blocks of a world that nobody owns -/
def Here (W : World) (H : List Ck) : Prop := ∀ c ∈ H, W.heap[c.b]? = some c.o ∧ c.ex = false
theorem Here.nil (W : World) : Here W [] := fun c h => by cases h
theorem Here.append {W : World} {A B : List Ck} (a : Here W A) (b : Here W B) : Here W (A ++ B) := fun c h => by
  rcases List.mem_append.1 h with h | h
  · exact a c h
  · exact b c h

variable {Hh : Type} {enc : TypeId × Value → Hh} {P : Program} {W : World} {base : Nat} {spare : Nat → Bool} {held : Bool} {fuel : Nat} {t : TypeId} {cs : List Value} {x : DataW Hh × List MemPlace}

/-- the law's call, told by a Tells -/
theorem calls_of_tells {f : FuncId} {args : List Value} {H : List Ck} {v : Value} (h : Reads P f args H v) (hH : Here W H) : Calls P f args.toArray W fun e w' => e = .returned v ∧ Below W.heap.size W w' :=
  (Tells.below h hH).mono fun e w' ⟨v', H', he, hp, hb⟩ => ⟨by rw [he, hp.1], hb⟩

theorem cell_block {a : Addr} {v : Value} (h : W.cell? a = some v) : ∃ (b o : Nat) (c : Array Value) (T : TypeId) (fr : Nat × Nat), a = ⟨b, o, none⟩ ∧ W.heap[b]? = some (.cells c T fr) ∧ c[o]? = some v := by
  unfold World.cell? at h
  split at h
  · rename_i c T fr hb
    obtain ⟨b, o, sp⟩ := a
    cases sp with
    | none => exact ⟨b, o, c, T, fr, rfl, hb, by simpa using h⟩
    | some s => simp at h
  · cases h

/-- A slice that came in: its cells, as one row; each element reads. -/
theorem open_row {T e s : Nat} {ao : Option Addr} {len cap : Nat} {d : DataW Hh} {p : List MemPlace} (hT : sliceOf P T = some e) (hs : P.cellsOf e = s) (hs0 : 0 < s) (h : DataW.Trod enc P W base spare held T (.slice ao len cap) d p) :
    ∃ (xs : List Value) (H : List Ck) (n : Nat), Rs (.slice ao len cap) len xs H ∧ xs.length = len * s ∧ len ≤ maxLen ∧ Here W H ∧
      ∀ i, i < len → ∃ y, DataW.trod enc P W base spare held n e ((xs.drop (i * s)).take s) = some y := by
  obtain ⟨fuel, hf⟩ := h
  rcases DataW.trod_slice (underlying_slice hT) hf with ⟨hcs, _⟩ | ⟨a, l, c, elems, rest, n, _, hcs, _, hb, hl, hm, hlen, hel, _⟩
  · simp [Value.cells] at hcs
    obtain ⟨rfl, rfl, rfl⟩ := hcs
    exact ⟨[], [], 0, .inl ⟨_, _, rfl, rfl, rfl⟩, by simp, Nat.zero_le _, Here.nil W, fun i hi => by omega⟩
  · simp [Value.cells] at hcs
    obtain ⟨rfl, rfl, rfl⟩ := hcs
    rw [hs] at hel
    by_cases h0 : len = 0
    · subst h0
      exact ⟨[], [], 0, .inl ⟨_, _, rfl, rfl, rfl⟩, by simp, Nat.zero_le _, Here.nil W, fun i hi => by omega⟩
    · have each : ∀ i, i < len → ∃ l y, W.cells? base (a.add (i * s)) s = some l ∧ DataW.trod enc P W base spare held n e l = some y := fun i hi => by
        have h1 := hel i hi
        have h2 : i < elems.length := by omega
        rw [List.getElem?_eq_getElem h2] at h1
        obtain ⟨l, h3, h4⟩ := Option.bind_eq_some_iff.1 h1
        exact ⟨l, _, h3, h4⟩
      obtain ⟨l0, y0, h1, _⟩ := each 0 (by omega)
      have c0 := (World.cells?_some h1).2
      obtain ⟨hlen0, hcell0⟩ := c0
      obtain ⟨b, o, cs, T', fr, hab, hblk, _⟩ := cell_block ((hcell0 0 (by omega)).trans (List.getElem?_eq_getElem (show 0 < l0.length by omega)))
      have haz : a = ⟨b, o, none⟩ := by
        have : (a.add (0 * s)).add 0 = a := by simp [Addr.add]
        rw [this] at hab
        exact hab
      subst haz
      have key : ∀ i, i < len → ∀ j, j < s → ∃ l, W.cells? base ((⟨b, o, none⟩ : Addr).add (i * s)) s = some l ∧ cs[o + i * s + j]? = l[j]? ∧ l.length = s := fun i hi j hj => by
        obtain ⟨l, y, h3, _⟩ := each i hi
        obtain ⟨_, hl3, hc3⟩ := World.cells?_some h3
        refine ⟨l, h3, ?_, hl3⟩
        have h4 := hc3 j (by omega)
        rw [add_plain, add_plain, cell_at hblk] at h4
        exact h4
      have hsize : o + len * s ≤ cs.size := by
        obtain ⟨l, _, h5, h6⟩ := key (len - 1) (by omega) (s - 1) (by omega)
        rw [List.getElem?_eq_getElem (by omega)] at h5
        have h7 := (Array.getElem?_eq_some_iff.1 h5).1
        have h8 : len * s = (len - 1) * s + s := by
          have : len = (len - 1) + 1 := by omega
          rw [this, Nat.add_mul, Nat.one_mul]
          simp
        omega
      refine ⟨(cs.toList.drop o).take (len * s), [⟨b, .cells cs T' fr, false⟩], n, ?_, by simp; omega, by omega, fun c hc => by simp at hc; subst hc; exact ⟨hblk, rfl⟩, fun i hi => ?_⟩
      · refine .inr ⟨b, o, cap, cs.toList, T', fr, false, rfl, hl, by simp, ?_⟩
        have : ((cs.toList.drop o).take (len * s)).length = len * s := by simp; omega
        rw [this]
      · obtain ⟨l, y, h3, h4⟩ := each i hi
        refine ⟨y, ?_⟩
        have : (((cs.toList.drop o).take (len * s)).drop (i * s)).take s = l := by
          obtain ⟨_, hl3, hc3⟩ := World.cells?_some h3
          apply List.ext_getElem?
          intro j
          by_cases hj : j < s
          · obtain ⟨l', h5, h6, h7⟩ := key i hi j hj
            rw [h3] at h5
            cases h5
            rw [List.getElem?_take, if_pos hj, List.getElem?_drop, List.getElem?_take]
            have h8 : i * s + j < len * s := by
              have : i * s + s ≤ len * s := by
                have := Nat.mul_le_mul_right s (show i + 1 ≤ len by omega)
                rwa [Nat.add_mul, Nat.one_mul] at this
              omega
            rw [if_pos h8, List.getElem?_drop, ← h6]
            simp [Nat.add_assoc]
          · rw [List.getElem?_take, if_neg hj, List.getElem?_eq_none (by omega)]
        rw [this]
        exact h4

theorem wf_bits {k : IntKind} {n : Int} (h : (Lit.int k n).wf = true) : k.min ≤ n ∧ n ≤ k.max := by
  simpa [Lit.wf] using h

theorem as_bits8 {n : Int} (h : (Lit.int .u8 n).wf = true) : ∃ x : BitVec 8, n = x.toNat := by
  have := bounds_u8 h
  exact ⟨BitVec.ofNat 8 n.toNat, by simp; omega⟩
theorem as_bits32 {n : Int} (h : (Lit.int .u32 n).wf = true) : ∃ x : BitVec 32, n = x.toNat := by
  have := bounds_u32 h
  exact ⟨BitVec.ofNat 32 n.toNat, by simp; omega⟩
theorem as_bits64 {n : Int} (h : (Lit.int .u64 n).wf = true) : ∃ x : BitVec 64, n = x.toNat := by
  have := bounds_u64 h
  exact ⟨BitVec.ofNat 64 n.toNat, by simp; omega⟩
theorem as_i64 {n : Int} (h : (Lit.int .i64 n).wf = true) : -9223372036854775808 ≤ n ∧ n ≤ 9223372036854775807 := bounds_i64 h

/-- bytes that came in -/
theorem open_bytes {T e : Nat} {ao : Option Addr} {len cap : Nat} {d : DataW Hh} {p : List MemPlace} (hT : sliceOf P T = some e) (he : intOfTy P e = some .u8) (hs : P.cellsOf e = 1) (h : DataW.Trod enc P W base spare held T (.slice ao len cap) d p) :
    ∃ (bs : List (BitVec 8)) (H : List Ck), Bs (.slice ao len cap) bs H ∧ bs.length = len ∧ len ≤ maxLen ∧ Here W H := by
  obtain ⟨xs, H, n, hr, hl, hm, hh, hel⟩ := open_row hT hs (by omega) h
  have : ∃ bs : List (BitVec 8), xs = bc bs := by
    have each : ∀ i, i < xs.length → ∃ x : BitVec 8, xs[i]? = some (.int .u8 x.toNat) := fun i hi => by
      obtain ⟨y, hy⟩ := hel i (by omega)
      obtain ⟨m, hm1, _, hm2⟩ := DataW.trod_int (underlying_int he) hy
      obtain ⟨x, rfl⟩ := as_bits8 hm2
      refine ⟨x, ?_⟩
      have := congrArg (fun l => l[0]?) hm1
      simpa using this
    clear hr hl hel
    induction xs with
    | nil => exact ⟨[], rfl⟩
    | cons v xs ih =>
      obtain ⟨x, hx⟩ := each 0 (by simp)
      simp at hx
      obtain ⟨bs, hbs⟩ := ih (fun i hi => by
        obtain ⟨x, h⟩ := each (i + 1) (by simpa using hi)
        exact ⟨x, by simpa using h⟩)
      exact ⟨x :: bs, by rw [hx, hbs]; rfl⟩
  obtain ⟨bs, rfl⟩ := this
  rw [bc_length, Nat.mul_one] at hl
  refine ⟨bs, H, ?_, hl, hm, hh⟩
  show Rs _ bs.length _ _
  rw [hl]
  exact hr

end Go.SL
