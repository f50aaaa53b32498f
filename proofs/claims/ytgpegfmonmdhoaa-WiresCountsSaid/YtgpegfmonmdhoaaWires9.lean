/-
  The walks of the net's laws: what is the same, WiresCounts.
-/
import Derived.Test.YtgpegfmonmdhoaaWires8
import Derived.Test.YtgpegfmonmdhoaaWireRow
import Derived.Test.YtgpegfmonmdhoaaWireMath5
set_option linter.unusedVariables false
set_option linter.unusedSimpArgs false
set_option maxHeartbeats 4000000
set_option maxRecDepth 100000
namespace Go.Proofs.Ytgpegfmonmdhoaa
open Go.SL
/-- the acts that came in -/
def AwsAt (xs : List Value) (aq : List Aw) (H : List Ck) : Prop := ∀ i (h : i < aq.length), AwE ((xs.drop (i * 17)).take 17) aq[i] H


/-- drayage/drayageref05.Same -/
theorem same05_reads (a b : Nt) (vk vd uk ud : Value) (H : List Ck) (h1 : Bs vk a.key H) (h2 : Bs vd a.data H) (h3 : Bs uk b.key H) (h4 : Bs ud b.data H) : Reads Try.prog 45 [.agg (ntc a vk vd).toArray, .agg (ntc b uk ud).toArray] H (.bool (sameN a b)) := by
  refine Tells.enter Try.func45 rfl Try.ntmps45 rfl ?_
  intro w0 R
  obtain ⟨o1, c1, rfl, _⟩ := h1.form
  obtain ⟨o2, c2, rfl, _⟩ := h2.form
  obtain ⟨o3, c3, rfl, _⟩ := h3.form
  obtain ⟨o4, c4, rfl, _⟩ := h4.form
  refine WC.seq ?_
  refine WC.region ?_
  refine WL.h rfl (Hd.boxA rfl fun b2 => ⟨_, rfl, ?_⟩)
  refine WL.h rfl (Hd.boxA rfl fun b3 => ⟨_, rfl, ?_⟩)
  refine WL.y rfl (Yd.assign rfl) ?_
  refine WL.nil ?_
  refine DN.then_normal ?_
  refine WC.seq ?_
  refine WC.region ?_
  refine WL.y rfl (Yd.fieldAddr (k := 0) (by kernel_rfl) rfl) ?_
  refine WL.h rfl (Hd.load1 (by kernel_rfl) rfl (by repeat (first | exact List.mem_cons_self | apply List.mem_cons_of_mem | apply List.mem_append_right)) (by rfl) ⟨_, rfl, ?_⟩)
  refine WL.y rfl (Yd.fieldAddr (k := 0) (by kernel_rfl) rfl) ?_
  refine WL.h rfl (Hd.load1 (by kernel_rfl) rfl (by repeat (first | exact List.mem_cons_self | apply List.mem_cons_of_mem | apply List.mem_append_right)) (by rfl) ⟨_, rfl, ?_⟩)
  refine WL.y rfl (Yd.eql rfl rfl) ?_
  refine WL.y rfl (Yd.move rfl) ?_
  refine WL.partP (t := 10) rfl (fun hg10 => ?_) (fun hg10 => ?_)
  · refine WL.gy (dj := 10) rfl rfl rfl (Yd.fieldAddr (k := 1) (by kernel_rfl) rfl) ?_
    refine WL.gh (dj := 10) rfl rfl rfl (Hd.load1 (by kernel_rfl) rfl (by repeat (first | exact List.mem_cons_self | apply List.mem_cons_of_mem | apply List.mem_append_right)) (by rfl) ⟨_, rfl, ?_⟩)
    refine WL.gy (dj := 10) rfl rfl rfl (Yd.fieldAddr (k := 1) (by kernel_rfl) rfl) ?_
    refine WL.gh (dj := 10) rfl rfl rfl (Hd.load1 (by kernel_rfl) rfl (by repeat (first | exact List.mem_cons_self | apply List.mem_cons_of_mem | apply List.mem_append_right)) (by rfl) ⟨_, rfl, ?_⟩)
    refine WL.gy (dj := 10) rfl rfl rfl (Yd.eql32 _ _ rfl rfl rfl rfl) ?_
    refine WL.y rfl (Yd.pickT rfl rfl) ?_
    refine WL.y rfl (Yd.move rfl) ?_
    refine WL.partP (t := 17) rfl (fun hg17 => ?_) (fun hg17 => ?_)
    · refine WL.gy (dj := 17) rfl rfl rfl (Yd.fieldAddr (k := 2) (by kernel_rfl) rfl) ?_
      refine WL.gh (dj := 17) rfl rfl rfl (Hd.load1 (by kernel_rfl) rfl (by repeat (first | exact List.mem_cons_self | apply List.mem_cons_of_mem | apply List.mem_append_right)) (by rfl) ⟨_, rfl, ?_⟩)
      refine WL.gy (dj := 17) rfl rfl rfl (Yd.fieldAddr (k := 2) (by kernel_rfl) rfl) ?_
      refine WL.gh (dj := 17) rfl rfl rfl (Hd.load1 (by kernel_rfl) rfl (by repeat (first | exact List.mem_cons_self | apply List.mem_cons_of_mem | apply List.mem_append_right)) (by rfl) ⟨_, rfl, ?_⟩)
      refine WL.gy (dj := 17) rfl rfl rfl (Yd.eql32 _ _ rfl rfl rfl rfl) ?_
      refine WL.y rfl (Yd.pickT rfl rfl) ?_
      refine WL.y rfl (Yd.move rfl) ?_
      refine WL.partP (t := 24) rfl (fun hg24 => ?_) (fun hg24 => ?_)
      · refine WL.gy (dj := 24) rfl rfl rfl (Yd.fieldAddr (k := 3) (by kernel_rfl) rfl) ?_
        refine WL.gh (dj := 24) rfl rfl rfl (Hd.load1 (by kernel_rfl) rfl (by repeat (first | exact List.mem_cons_self | apply List.mem_cons_of_mem | apply List.mem_append_right)) (by rfl) ⟨_, rfl, ?_⟩)
        refine WL.gy (dj := 24) rfl rfl rfl (Yd.fieldAddr (k := 3) (by kernel_rfl) rfl) ?_
        refine WL.gh (dj := 24) rfl rfl rfl (Hd.load1 (by kernel_rfl) rfl (by repeat (first | exact List.mem_cons_self | apply List.mem_cons_of_mem | apply List.mem_append_right)) (by rfl) ⟨_, rfl, ?_⟩)
        refine WL.gy (dj := 24) rfl rfl rfl (Yd.eql64 _ _ rfl rfl rfl rfl) ?_
        refine WL.y rfl (Yd.pickT rfl rfl) ?_
        refine WL.y rfl (Yd.move rfl) ?_
        refine WL.partP (t := 31) rfl (fun hg31 => ?_) (fun hg31 => ?_)
        · refine WL.gy (dj := 31) rfl rfl rfl (Yd.fieldAddr (k := 4) (by kernel_rfl) rfl) ?_
          refine WL.gh (dj := 31) rfl rfl rfl (Hd.load1 (by kernel_rfl) rfl (by repeat (first | exact List.mem_cons_self | apply List.mem_cons_of_mem | apply List.mem_append_right)) (by rfl) ⟨_, rfl, ?_⟩)
          refine WL.gy (dj := 31) rfl rfl rfl (Yd.fieldAddr (k := 4) (by kernel_rfl) rfl) ?_
          refine WL.gh (dj := 31) rfl rfl rfl (Hd.load1 (by kernel_rfl) rfl (by repeat (first | exact List.mem_cons_self | apply List.mem_cons_of_mem | apply List.mem_append_right)) (by rfl) ⟨_, rfl, ?_⟩)
          refine WL.gy (dj := 31) rfl rfl rfl (Yd.eql64 _ _ rfl rfl rfl rfl) ?_
          refine WL.y rfl (Yd.pickT rfl rfl) ?_
          refine WL.y rfl (Yd.move rfl) ?_
          refine WL.partP (t := 38) rfl (fun hg38 => ?_) (fun hg38 => ?_)
          · refine WL.gy (dj := 38) rfl rfl rfl (Yd.fieldAddr (k := 5) (by kernel_rfl) rfl) ?_
            refine WL.gh (dj := 38) rfl rfl rfl (Hd.load1 (by kernel_rfl) rfl (by repeat (first | exact List.mem_cons_self | apply List.mem_cons_of_mem | apply List.mem_append_right)) (by rfl) ⟨_, rfl, ?_⟩)
            refine WL.gy (dj := 38) rfl rfl rfl (Yd.fieldAddr (k := 5) (by kernel_rfl) rfl) ?_
            refine WL.gh (dj := 38) rfl rfl rfl (Hd.load1 (by kernel_rfl) rfl (by repeat (first | exact List.mem_cons_self | apply List.mem_cons_of_mem | apply List.mem_append_right)) (by rfl) ⟨_, rfl, ?_⟩)
            refine WL.gy (dj := 38) rfl rfl rfl (Yd.eql32 _ _ rfl rfl rfl rfl) ?_
            refine WL.y rfl (Yd.pickT rfl rfl) ?_
            refine WL.y rfl (Yd.move rfl) ?_
            refine WL.partP (t := 45) rfl (fun hg45 => ?_) (fun hg45 => ?_)
            · refine WL.gy (dj := 45) rfl rfl rfl (Yd.fieldAddr (k := 6) (by kernel_rfl) rfl) ?_
              refine WL.gh (dj := 45) rfl rfl rfl (Hd.load1 (by kernel_rfl) rfl (by repeat (first | exact List.mem_cons_self | apply List.mem_cons_of_mem | apply List.mem_append_right)) (by rfl) ⟨_, rfl, ?_⟩)
              refine WL.gy (dj := 45) rfl rfl rfl (Yd.fieldAddr (k := 6) (by kernel_rfl) rfl) ?_
              refine WL.gh (dj := 45) rfl rfl rfl (Hd.load1 (by kernel_rfl) rfl (by repeat (first | exact List.mem_cons_self | apply List.mem_cons_of_mem | apply List.mem_append_right)) (by rfl) ⟨_, rfl, ?_⟩)
              refine WL.gy (dj := 45) rfl rfl rfl (Yd.eql rfl rfl) ?_
              refine WL.y rfl (Yd.pickT rfl rfl) ?_
              refine WL.y rfl (Yd.move rfl) ?_
              refine WL.partP (t := 52) rfl (fun hg52 => ?_) (fun hg52 => ?_)
              · refine WL.gy (dj := 52) rfl rfl rfl (Yd.fieldAddr (k := 7) (by kernel_rfl) rfl) ?_
                refine WL.gh (dj := 52) rfl rfl rfl (Hd.load1 (by kernel_rfl) rfl (by repeat (first | exact List.mem_cons_self | apply List.mem_cons_of_mem | apply List.mem_append_right)) (by rfl) ⟨_, rfl, ?_⟩)
                refine WL.gy (dj := 52) rfl rfl rfl (Yd.fieldAddr (k := 7) (by kernel_rfl) rfl) ?_
                refine WL.gh (dj := 52) rfl rfl rfl (Hd.load1 (by kernel_rfl) rfl (by repeat (first | exact List.mem_cons_self | apply List.mem_cons_of_mem | apply List.mem_append_right)) (by rfl) ⟨_, rfl, ?_⟩)
                refine WL.gy (dj := 52) rfl rfl rfl (Yd.eqlB Try.underlying4 rfl rfl) ?_
                refine WL.y rfl (Yd.pickT rfl rfl) ?_
                refine WL.y rfl (Yd.move rfl) ?_
                refine WL.part (t := 59) rfl (fun hg59 => ?_) (fun hg59 => ?_)
                · refine WL.gy (dj := 59) rfl rfl rfl (Yd.fieldAddr (k := 8) (by kernel_rfl) rfl) ?_
                  refine WL.gh (dj := 59) rfl rfl rfl (Hd.load1 (by kernel_rfl) rfl (by repeat (first | exact List.mem_cons_self | apply List.mem_cons_of_mem | apply List.mem_append_right)) (by rfl) ⟨_, rfl, ?_⟩)
                  refine WL.gy (dj := 59) rfl rfl rfl (Yd.fieldAddr (k := 8) (by kernel_rfl) rfl) ?_
                  refine WL.gh (dj := 59) rfl rfl rfl (Hd.load1 (by kernel_rfl) rfl (by repeat (first | exact List.mem_cons_self | apply List.mem_cons_of_mem | apply List.mem_append_right)) (by rfl) ⟨_, rfl, ?_⟩)
                  refine WL.gy (dj := 59) rfl rfl rfl (Yd.eql rfl rfl) ?_
                  refine WL.y rfl (Yd.pickT rfl rfl) ?_
                  refine WL.y rfl (Yd.move rfl) ?_
                  refine WL.partP (t := 66) rfl (fun hg66 => ?_) (fun hg66 => ?_)
                  · refine WL.gy (dj := 66) rfl rfl rfl (Yd.fieldAddr (k := 9) (by kernel_rfl) rfl) ?_
                    refine WL.gh (dj := 66) rfl rfl rfl (Hd.load1 (by kernel_rfl) rfl (by repeat (first | exact List.mem_cons_self | apply List.mem_cons_of_mem | apply List.mem_append_right)) (by rfl) ⟨_, rfl, ?_⟩)
                    refine WL.gh (dj := 66) rfl rfl rfl (Hd.toStr (e := 5) (bs := a.key) (by kernel_rfl) (by kernel_rfl) Try.underlying9 rfl (h1.mono (by repeat (first | exact Gr.refl | exact Gr.left Gr.refl | exact Gr.nil | exact Gr.app (Gr.left Gr.refl) | refine Gr.cons ?_ | refine Gr.app ?_ | refine Gr.both ?_ ?_ | refine Gr.put (by repeat (first | exact List.mem_cons_self | apply List.mem_cons_of_mem | apply List.mem_append_right)) ?_))) ⟨_, rfl, ?_⟩)
                    refine WL.gy (dj := 66) rfl rfl rfl (Yd.fieldAddr (k := 9) (by kernel_rfl) rfl) ?_
                    refine WL.gh (dj := 66) rfl rfl rfl (Hd.load1 (by kernel_rfl) rfl (by repeat (first | exact List.mem_cons_self | apply List.mem_cons_of_mem | apply List.mem_append_right)) (by rfl) ⟨_, rfl, ?_⟩)
                    refine WL.gh (dj := 66) rfl rfl rfl (Hd.toStr (e := 5) (bs := b.key) (by kernel_rfl) (by kernel_rfl) Try.underlying9 rfl (h3.mono (by repeat (first | exact Gr.refl | exact Gr.left Gr.refl | exact Gr.nil | exact Gr.app (Gr.left Gr.refl) | refine Gr.cons ?_ | refine Gr.app ?_ | refine Gr.both ?_ ?_ | refine Gr.put (by repeat (first | exact List.mem_cons_self | apply List.mem_cons_of_mem | apply List.mem_append_right)) ?_))) ⟨_, rfl, ?_⟩)
                    refine WL.gy (dj := 66) rfl rfl rfl (Yd.eqlS rfl rfl) ?_
                    refine WL.y rfl (Yd.pickT rfl rfl) ?_
                    refine WL.y rfl (Yd.move rfl) ?_
                    refine WL.partP (t := 75) rfl (fun hg75 => ?_) (fun hg75 => ?_)
                    · refine WL.gy (dj := 75) rfl rfl rfl (Yd.fieldAddr (k := 10) (by kernel_rfl) rfl) ?_
                      refine WL.gh (dj := 75) rfl rfl rfl (Hd.load1 (by kernel_rfl) rfl (by repeat (first | exact List.mem_cons_self | apply List.mem_cons_of_mem | apply List.mem_append_right)) (by rfl) ⟨_, rfl, ?_⟩)
                      refine WL.gh (dj := 75) rfl rfl rfl (Hd.toStr (e := 5) (bs := a.data) (by kernel_rfl) (by kernel_rfl) Try.underlying9 rfl (h2.mono (by repeat (first | exact Gr.refl | exact Gr.left Gr.refl | exact Gr.nil | exact Gr.app (Gr.left Gr.refl) | refine Gr.cons ?_ | refine Gr.app ?_ | refine Gr.both ?_ ?_ | refine Gr.put (by repeat (first | exact List.mem_cons_self | apply List.mem_cons_of_mem | apply List.mem_append_right)) ?_))) ⟨_, rfl, ?_⟩)
                      refine WL.gy (dj := 75) rfl rfl rfl (Yd.fieldAddr (k := 10) (by kernel_rfl) rfl) ?_
                      refine WL.gh (dj := 75) rfl rfl rfl (Hd.load1 (by kernel_rfl) rfl (by repeat (first | exact List.mem_cons_self | apply List.mem_cons_of_mem | apply List.mem_append_right)) (by rfl) ⟨_, rfl, ?_⟩)
                      refine WL.gh (dj := 75) rfl rfl rfl (Hd.toStr (e := 5) (bs := b.data) (by kernel_rfl) (by kernel_rfl) Try.underlying9 rfl (h4.mono (by repeat (first | exact Gr.refl | exact Gr.left Gr.refl | exact Gr.nil | exact Gr.app (Gr.left Gr.refl) | refine Gr.cons ?_ | refine Gr.app ?_ | refine Gr.both ?_ ?_ | refine Gr.put (by repeat (first | exact List.mem_cons_self | apply List.mem_cons_of_mem | apply List.mem_append_right)) ?_))) ⟨_, rfl, ?_⟩)
                      refine WL.gy (dj := 75) rfl rfl rfl (Yd.eqlS rfl rfl) ?_
                      refine WL.y rfl (Yd.pickT rfl rfl) ?_
                      refine WL.y rfl (Yd.assign rfl) ?_
                      refine WL.nil ?_
                      refine DN.then_normal ?_
                      refine WC.ret ?_
                      refine DN.fit (C := H) (by repeat (first | exact Sp.here | exact Sp.sn | exact Sp.s0 | exact Fr.here | apply Sp.s2 | apply Sp.sx | apply Fr.fc | apply Fr.al | apply Fr.fa | apply Sp.sc | apply Sp.al | apply Sp.sa)) ?_
                      refine DN.ret1 Try.results45 rfl ?_
                      exact ⟨by congr 1; symm; simp only [sameN, *, decide_true, decide_false, Bool.true_and, Bool.false_and], rfl⟩
                    · refine WL.gn (dj := 75) rfl rfl rfl rfl ?_
                      refine WL.gn (dj := 75) rfl rfl rfl rfl ?_
                      refine WL.gn (dj := 75) rfl rfl rfl rfl ?_
                      refine WL.gn (dj := 75) rfl rfl rfl rfl ?_
                      refine WL.gn (dj := 75) rfl rfl rfl rfl ?_
                      refine WL.gn (dj := 75) rfl rfl rfl rfl ?_
                      refine WL.gn (dj := 75) rfl rfl rfl rfl ?_
                      refine WL.y rfl (Yd.pickF rfl rfl) ?_
                      refine WL.y rfl (Yd.assign rfl) ?_
                      refine WL.nil ?_
                      refine DN.then_normal ?_
                      refine WC.ret ?_
                      refine DN.fit (C := H) (by repeat (first | exact Sp.here | exact Sp.sn | exact Sp.s0 | exact Fr.here | apply Sp.s2 | apply Sp.sx | apply Fr.fc | apply Fr.al | apply Fr.fa | apply Sp.sc | apply Sp.al | apply Sp.sa)) ?_
                      refine DN.ret1 Try.results45 rfl ?_
                      exact ⟨by congr 1; symm; simp only [sameN, *, decide_true, decide_false, Bool.true_and, Bool.false_and], rfl⟩
                  · refine WL.gn (dj := 66) rfl rfl rfl rfl ?_
                    refine WL.gn (dj := 66) rfl rfl rfl rfl ?_
                    refine WL.gn (dj := 66) rfl rfl rfl rfl ?_
                    refine WL.gn (dj := 66) rfl rfl rfl rfl ?_
                    refine WL.gn (dj := 66) rfl rfl rfl rfl ?_
                    refine WL.gn (dj := 66) rfl rfl rfl rfl ?_
                    refine WL.gn (dj := 66) rfl rfl rfl rfl ?_
                    refine WL.y rfl (Yd.pickF rfl rfl) ?_
                    refine WL.y rfl (Yd.move rfl) ?_
                    refine WL.gn (dj := 75) rfl rfl rfl rfl ?_
                    refine WL.gn (dj := 75) rfl rfl rfl rfl ?_
                    refine WL.gn (dj := 75) rfl rfl rfl rfl ?_
                    refine WL.gn (dj := 75) rfl rfl rfl rfl ?_
                    refine WL.gn (dj := 75) rfl rfl rfl rfl ?_
                    refine WL.gn (dj := 75) rfl rfl rfl rfl ?_
                    refine WL.gn (dj := 75) rfl rfl rfl rfl ?_
                    refine WL.y rfl (Yd.pickF rfl rfl) ?_
                    refine WL.y rfl (Yd.assign rfl) ?_
                    refine WL.nil ?_
                    refine DN.then_normal ?_
                    refine WC.ret ?_
                    refine DN.fit (C := H) (by repeat (first | exact Sp.here | exact Sp.sn | exact Sp.s0 | exact Fr.here | apply Sp.s2 | apply Sp.sx | apply Fr.fc | apply Fr.al | apply Fr.fa | apply Sp.sc | apply Sp.al | apply Sp.sa)) ?_
                    refine DN.ret1 Try.results45 rfl ?_
                    exact ⟨by congr 1; symm; simp only [sameN, *, decide_true, decide_false, Bool.true_and, Bool.false_and], rfl⟩
                · refine WL.gn (dj := 59) rfl rfl rfl rfl ?_
                  refine WL.gn (dj := 59) rfl rfl rfl rfl ?_
                  refine WL.gn (dj := 59) rfl rfl rfl rfl ?_
                  refine WL.gn (dj := 59) rfl rfl rfl rfl ?_
                  refine WL.gn (dj := 59) rfl rfl rfl rfl ?_
                  refine WL.y rfl (Yd.pickF rfl rfl) ?_
                  refine WL.y rfl (Yd.move rfl) ?_
                  refine WL.gn (dj := 66) rfl rfl rfl rfl ?_
                  refine WL.gn (dj := 66) rfl rfl rfl rfl ?_
                  refine WL.gn (dj := 66) rfl rfl rfl rfl ?_
                  refine WL.gn (dj := 66) rfl rfl rfl rfl ?_
                  refine WL.gn (dj := 66) rfl rfl rfl rfl ?_
                  refine WL.gn (dj := 66) rfl rfl rfl rfl ?_
                  refine WL.gn (dj := 66) rfl rfl rfl rfl ?_
                  refine WL.y rfl (Yd.pickF rfl rfl) ?_
                  refine WL.y rfl (Yd.move rfl) ?_
                  refine WL.gn (dj := 75) rfl rfl rfl rfl ?_
                  refine WL.gn (dj := 75) rfl rfl rfl rfl ?_
                  refine WL.gn (dj := 75) rfl rfl rfl rfl ?_
                  refine WL.gn (dj := 75) rfl rfl rfl rfl ?_
                  refine WL.gn (dj := 75) rfl rfl rfl rfl ?_
                  refine WL.gn (dj := 75) rfl rfl rfl rfl ?_
                  refine WL.gn (dj := 75) rfl rfl rfl rfl ?_
                  refine WL.y rfl (Yd.pickF rfl rfl) ?_
                  refine WL.y rfl (Yd.assign rfl) ?_
                  refine WL.nil ?_
                  refine DN.then_normal ?_
                  refine WC.ret ?_
                  refine DN.fit (C := H) (by repeat (first | exact Sp.here | exact Sp.sn | exact Sp.s0 | exact Fr.here | apply Sp.s2 | apply Sp.sx | apply Fr.fc | apply Fr.al | apply Fr.fa | apply Sp.sc | apply Sp.al | apply Sp.sa)) ?_
                  refine DN.ret1 Try.results45 rfl ?_
                  exact ⟨by congr 1; symm; simp only [sameN, *, decide_true, decide_false, Bool.true_and, Bool.false_and], rfl⟩
              · refine WL.gn (dj := 52) rfl rfl rfl rfl ?_
                refine WL.gn (dj := 52) rfl rfl rfl rfl ?_
                refine WL.gn (dj := 52) rfl rfl rfl rfl ?_
                refine WL.gn (dj := 52) rfl rfl rfl rfl ?_
                refine WL.gn (dj := 52) rfl rfl rfl rfl ?_
                refine WL.y rfl (Yd.pickF rfl rfl) ?_
                refine WL.y rfl (Yd.move rfl) ?_
                refine WL.gn (dj := 59) rfl rfl rfl rfl ?_
                refine WL.gn (dj := 59) rfl rfl rfl rfl ?_
                refine WL.gn (dj := 59) rfl rfl rfl rfl ?_
                refine WL.gn (dj := 59) rfl rfl rfl rfl ?_
                refine WL.gn (dj := 59) rfl rfl rfl rfl ?_
                refine WL.y rfl (Yd.pickF rfl rfl) ?_
                refine WL.y rfl (Yd.move rfl) ?_
                refine WL.gn (dj := 66) rfl rfl rfl rfl ?_
                refine WL.gn (dj := 66) rfl rfl rfl rfl ?_
                refine WL.gn (dj := 66) rfl rfl rfl rfl ?_
                refine WL.gn (dj := 66) rfl rfl rfl rfl ?_
                refine WL.gn (dj := 66) rfl rfl rfl rfl ?_
                refine WL.gn (dj := 66) rfl rfl rfl rfl ?_
                refine WL.gn (dj := 66) rfl rfl rfl rfl ?_
                refine WL.y rfl (Yd.pickF rfl rfl) ?_
                refine WL.y rfl (Yd.move rfl) ?_
                refine WL.gn (dj := 75) rfl rfl rfl rfl ?_
                refine WL.gn (dj := 75) rfl rfl rfl rfl ?_
                refine WL.gn (dj := 75) rfl rfl rfl rfl ?_
                refine WL.gn (dj := 75) rfl rfl rfl rfl ?_
                refine WL.gn (dj := 75) rfl rfl rfl rfl ?_
                refine WL.gn (dj := 75) rfl rfl rfl rfl ?_
                refine WL.gn (dj := 75) rfl rfl rfl rfl ?_
                refine WL.y rfl (Yd.pickF rfl rfl) ?_
                refine WL.y rfl (Yd.assign rfl) ?_
                refine WL.nil ?_
                refine DN.then_normal ?_
                refine WC.ret ?_
                refine DN.fit (C := H) (by repeat (first | exact Sp.here | exact Sp.sn | exact Sp.s0 | exact Fr.here | apply Sp.s2 | apply Sp.sx | apply Fr.fc | apply Fr.al | apply Fr.fa | apply Sp.sc | apply Sp.al | apply Sp.sa)) ?_
                refine DN.ret1 Try.results45 rfl ?_
                exact ⟨by congr 1; symm; simp only [sameN, *, decide_true, decide_false, Bool.true_and, Bool.false_and], rfl⟩
            · refine WL.gn (dj := 45) rfl rfl rfl rfl ?_
              refine WL.gn (dj := 45) rfl rfl rfl rfl ?_
              refine WL.gn (dj := 45) rfl rfl rfl rfl ?_
              refine WL.gn (dj := 45) rfl rfl rfl rfl ?_
              refine WL.gn (dj := 45) rfl rfl rfl rfl ?_
              refine WL.y rfl (Yd.pickF rfl rfl) ?_
              refine WL.y rfl (Yd.move rfl) ?_
              refine WL.gn (dj := 52) rfl rfl rfl rfl ?_
              refine WL.gn (dj := 52) rfl rfl rfl rfl ?_
              refine WL.gn (dj := 52) rfl rfl rfl rfl ?_
              refine WL.gn (dj := 52) rfl rfl rfl rfl ?_
              refine WL.gn (dj := 52) rfl rfl rfl rfl ?_
              refine WL.y rfl (Yd.pickF rfl rfl) ?_
              refine WL.y rfl (Yd.move rfl) ?_
              refine WL.gn (dj := 59) rfl rfl rfl rfl ?_
              refine WL.gn (dj := 59) rfl rfl rfl rfl ?_
              refine WL.gn (dj := 59) rfl rfl rfl rfl ?_
              refine WL.gn (dj := 59) rfl rfl rfl rfl ?_
              refine WL.gn (dj := 59) rfl rfl rfl rfl ?_
              refine WL.y rfl (Yd.pickF rfl rfl) ?_
              refine WL.y rfl (Yd.move rfl) ?_
              refine WL.gn (dj := 66) rfl rfl rfl rfl ?_
              refine WL.gn (dj := 66) rfl rfl rfl rfl ?_
              refine WL.gn (dj := 66) rfl rfl rfl rfl ?_
              refine WL.gn (dj := 66) rfl rfl rfl rfl ?_
              refine WL.gn (dj := 66) rfl rfl rfl rfl ?_
              refine WL.gn (dj := 66) rfl rfl rfl rfl ?_
              refine WL.gn (dj := 66) rfl rfl rfl rfl ?_
              refine WL.y rfl (Yd.pickF rfl rfl) ?_
              refine WL.y rfl (Yd.move rfl) ?_
              refine WL.gn (dj := 75) rfl rfl rfl rfl ?_
              refine WL.gn (dj := 75) rfl rfl rfl rfl ?_
              refine WL.gn (dj := 75) rfl rfl rfl rfl ?_
              refine WL.gn (dj := 75) rfl rfl rfl rfl ?_
              refine WL.gn (dj := 75) rfl rfl rfl rfl ?_
              refine WL.gn (dj := 75) rfl rfl rfl rfl ?_
              refine WL.gn (dj := 75) rfl rfl rfl rfl ?_
              refine WL.y rfl (Yd.pickF rfl rfl) ?_
              refine WL.y rfl (Yd.assign rfl) ?_
              refine WL.nil ?_
              refine DN.then_normal ?_
              refine WC.ret ?_
              refine DN.fit (C := H) (by repeat (first | exact Sp.here | exact Sp.sn | exact Sp.s0 | exact Fr.here | apply Sp.s2 | apply Sp.sx | apply Fr.fc | apply Fr.al | apply Fr.fa | apply Sp.sc | apply Sp.al | apply Sp.sa)) ?_
              refine DN.ret1 Try.results45 rfl ?_
              exact ⟨by congr 1; symm; simp only [sameN, *, decide_true, decide_false, Bool.true_and, Bool.false_and], rfl⟩
          · refine WL.gn (dj := 38) rfl rfl rfl rfl ?_
            refine WL.gn (dj := 38) rfl rfl rfl rfl ?_
            refine WL.gn (dj := 38) rfl rfl rfl rfl ?_
            refine WL.gn (dj := 38) rfl rfl rfl rfl ?_
            refine WL.gn (dj := 38) rfl rfl rfl rfl ?_
            refine WL.y rfl (Yd.pickF rfl rfl) ?_
            refine WL.y rfl (Yd.move rfl) ?_
            refine WL.gn (dj := 45) rfl rfl rfl rfl ?_
            refine WL.gn (dj := 45) rfl rfl rfl rfl ?_
            refine WL.gn (dj := 45) rfl rfl rfl rfl ?_
            refine WL.gn (dj := 45) rfl rfl rfl rfl ?_
            refine WL.gn (dj := 45) rfl rfl rfl rfl ?_
            refine WL.y rfl (Yd.pickF rfl rfl) ?_
            refine WL.y rfl (Yd.move rfl) ?_
            refine WL.gn (dj := 52) rfl rfl rfl rfl ?_
            refine WL.gn (dj := 52) rfl rfl rfl rfl ?_
            refine WL.gn (dj := 52) rfl rfl rfl rfl ?_
            refine WL.gn (dj := 52) rfl rfl rfl rfl ?_
            refine WL.gn (dj := 52) rfl rfl rfl rfl ?_
            refine WL.y rfl (Yd.pickF rfl rfl) ?_
            refine WL.y rfl (Yd.move rfl) ?_
            refine WL.gn (dj := 59) rfl rfl rfl rfl ?_
            refine WL.gn (dj := 59) rfl rfl rfl rfl ?_
            refine WL.gn (dj := 59) rfl rfl rfl rfl ?_
            refine WL.gn (dj := 59) rfl rfl rfl rfl ?_
            refine WL.gn (dj := 59) rfl rfl rfl rfl ?_
            refine WL.y rfl (Yd.pickF rfl rfl) ?_
            refine WL.y rfl (Yd.move rfl) ?_
            refine WL.gn (dj := 66) rfl rfl rfl rfl ?_
            refine WL.gn (dj := 66) rfl rfl rfl rfl ?_
            refine WL.gn (dj := 66) rfl rfl rfl rfl ?_
            refine WL.gn (dj := 66) rfl rfl rfl rfl ?_
            refine WL.gn (dj := 66) rfl rfl rfl rfl ?_
            refine WL.gn (dj := 66) rfl rfl rfl rfl ?_
            refine WL.gn (dj := 66) rfl rfl rfl rfl ?_
            refine WL.y rfl (Yd.pickF rfl rfl) ?_
            refine WL.y rfl (Yd.move rfl) ?_
            refine WL.gn (dj := 75) rfl rfl rfl rfl ?_
            refine WL.gn (dj := 75) rfl rfl rfl rfl ?_
            refine WL.gn (dj := 75) rfl rfl rfl rfl ?_
            refine WL.gn (dj := 75) rfl rfl rfl rfl ?_
            refine WL.gn (dj := 75) rfl rfl rfl rfl ?_
            refine WL.gn (dj := 75) rfl rfl rfl rfl ?_
            refine WL.gn (dj := 75) rfl rfl rfl rfl ?_
            refine WL.y rfl (Yd.pickF rfl rfl) ?_
            refine WL.y rfl (Yd.assign rfl) ?_
            refine WL.nil ?_
            refine DN.then_normal ?_
            refine WC.ret ?_
            refine DN.fit (C := H) (by repeat (first | exact Sp.here | exact Sp.sn | exact Sp.s0 | exact Fr.here | apply Sp.s2 | apply Sp.sx | apply Fr.fc | apply Fr.al | apply Fr.fa | apply Sp.sc | apply Sp.al | apply Sp.sa)) ?_
            refine DN.ret1 Try.results45 rfl ?_
            exact ⟨by congr 1; symm; simp only [sameN, *, decide_true, decide_false, Bool.true_and, Bool.false_and], rfl⟩
        · refine WL.gn (dj := 31) rfl rfl rfl rfl ?_
          refine WL.gn (dj := 31) rfl rfl rfl rfl ?_
          refine WL.gn (dj := 31) rfl rfl rfl rfl ?_
          refine WL.gn (dj := 31) rfl rfl rfl rfl ?_
          refine WL.gn (dj := 31) rfl rfl rfl rfl ?_
          refine WL.y rfl (Yd.pickF rfl rfl) ?_
          refine WL.y rfl (Yd.move rfl) ?_
          refine WL.gn (dj := 38) rfl rfl rfl rfl ?_
          refine WL.gn (dj := 38) rfl rfl rfl rfl ?_
          refine WL.gn (dj := 38) rfl rfl rfl rfl ?_
          refine WL.gn (dj := 38) rfl rfl rfl rfl ?_
          refine WL.gn (dj := 38) rfl rfl rfl rfl ?_
          refine WL.y rfl (Yd.pickF rfl rfl) ?_
          refine WL.y rfl (Yd.move rfl) ?_
          refine WL.gn (dj := 45) rfl rfl rfl rfl ?_
          refine WL.gn (dj := 45) rfl rfl rfl rfl ?_
          refine WL.gn (dj := 45) rfl rfl rfl rfl ?_
          refine WL.gn (dj := 45) rfl rfl rfl rfl ?_
          refine WL.gn (dj := 45) rfl rfl rfl rfl ?_
          refine WL.y rfl (Yd.pickF rfl rfl) ?_
          refine WL.y rfl (Yd.move rfl) ?_
          refine WL.gn (dj := 52) rfl rfl rfl rfl ?_
          refine WL.gn (dj := 52) rfl rfl rfl rfl ?_
          refine WL.gn (dj := 52) rfl rfl rfl rfl ?_
          refine WL.gn (dj := 52) rfl rfl rfl rfl ?_
          refine WL.gn (dj := 52) rfl rfl rfl rfl ?_
          refine WL.y rfl (Yd.pickF rfl rfl) ?_
          refine WL.y rfl (Yd.move rfl) ?_
          refine WL.gn (dj := 59) rfl rfl rfl rfl ?_
          refine WL.gn (dj := 59) rfl rfl rfl rfl ?_
          refine WL.gn (dj := 59) rfl rfl rfl rfl ?_
          refine WL.gn (dj := 59) rfl rfl rfl rfl ?_
          refine WL.gn (dj := 59) rfl rfl rfl rfl ?_
          refine WL.y rfl (Yd.pickF rfl rfl) ?_
          refine WL.y rfl (Yd.move rfl) ?_
          refine WL.gn (dj := 66) rfl rfl rfl rfl ?_
          refine WL.gn (dj := 66) rfl rfl rfl rfl ?_
          refine WL.gn (dj := 66) rfl rfl rfl rfl ?_
          refine WL.gn (dj := 66) rfl rfl rfl rfl ?_
          refine WL.gn (dj := 66) rfl rfl rfl rfl ?_
          refine WL.gn (dj := 66) rfl rfl rfl rfl ?_
          refine WL.gn (dj := 66) rfl rfl rfl rfl ?_
          refine WL.y rfl (Yd.pickF rfl rfl) ?_
          refine WL.y rfl (Yd.move rfl) ?_
          refine WL.gn (dj := 75) rfl rfl rfl rfl ?_
          refine WL.gn (dj := 75) rfl rfl rfl rfl ?_
          refine WL.gn (dj := 75) rfl rfl rfl rfl ?_
          refine WL.gn (dj := 75) rfl rfl rfl rfl ?_
          refine WL.gn (dj := 75) rfl rfl rfl rfl ?_
          refine WL.gn (dj := 75) rfl rfl rfl rfl ?_
          refine WL.gn (dj := 75) rfl rfl rfl rfl ?_
          refine WL.y rfl (Yd.pickF rfl rfl) ?_
          refine WL.y rfl (Yd.assign rfl) ?_
          refine WL.nil ?_
          refine DN.then_normal ?_
          refine WC.ret ?_
          refine DN.fit (C := H) (by repeat (first | exact Sp.here | exact Sp.sn | exact Sp.s0 | exact Fr.here | apply Sp.s2 | apply Sp.sx | apply Fr.fc | apply Fr.al | apply Fr.fa | apply Sp.sc | apply Sp.al | apply Sp.sa)) ?_
          refine DN.ret1 Try.results45 rfl ?_
          exact ⟨by congr 1; symm; simp only [sameN, *, decide_true, decide_false, Bool.true_and, Bool.false_and], rfl⟩
      · refine WL.gn (dj := 24) rfl rfl rfl rfl ?_
        refine WL.gn (dj := 24) rfl rfl rfl rfl ?_
        refine WL.gn (dj := 24) rfl rfl rfl rfl ?_
        refine WL.gn (dj := 24) rfl rfl rfl rfl ?_
        refine WL.gn (dj := 24) rfl rfl rfl rfl ?_
        refine WL.y rfl (Yd.pickF rfl rfl) ?_
        refine WL.y rfl (Yd.move rfl) ?_
        refine WL.gn (dj := 31) rfl rfl rfl rfl ?_
        refine WL.gn (dj := 31) rfl rfl rfl rfl ?_
        refine WL.gn (dj := 31) rfl rfl rfl rfl ?_
        refine WL.gn (dj := 31) rfl rfl rfl rfl ?_
        refine WL.gn (dj := 31) rfl rfl rfl rfl ?_
        refine WL.y rfl (Yd.pickF rfl rfl) ?_
        refine WL.y rfl (Yd.move rfl) ?_
        refine WL.gn (dj := 38) rfl rfl rfl rfl ?_
        refine WL.gn (dj := 38) rfl rfl rfl rfl ?_
        refine WL.gn (dj := 38) rfl rfl rfl rfl ?_
        refine WL.gn (dj := 38) rfl rfl rfl rfl ?_
        refine WL.gn (dj := 38) rfl rfl rfl rfl ?_
        refine WL.y rfl (Yd.pickF rfl rfl) ?_
        refine WL.y rfl (Yd.move rfl) ?_
        refine WL.gn (dj := 45) rfl rfl rfl rfl ?_
        refine WL.gn (dj := 45) rfl rfl rfl rfl ?_
        refine WL.gn (dj := 45) rfl rfl rfl rfl ?_
        refine WL.gn (dj := 45) rfl rfl rfl rfl ?_
        refine WL.gn (dj := 45) rfl rfl rfl rfl ?_
        refine WL.y rfl (Yd.pickF rfl rfl) ?_
        refine WL.y rfl (Yd.move rfl) ?_
        refine WL.gn (dj := 52) rfl rfl rfl rfl ?_
        refine WL.gn (dj := 52) rfl rfl rfl rfl ?_
        refine WL.gn (dj := 52) rfl rfl rfl rfl ?_
        refine WL.gn (dj := 52) rfl rfl rfl rfl ?_
        refine WL.gn (dj := 52) rfl rfl rfl rfl ?_
        refine WL.y rfl (Yd.pickF rfl rfl) ?_
        refine WL.y rfl (Yd.move rfl) ?_
        refine WL.gn (dj := 59) rfl rfl rfl rfl ?_
        refine WL.gn (dj := 59) rfl rfl rfl rfl ?_
        refine WL.gn (dj := 59) rfl rfl rfl rfl ?_
        refine WL.gn (dj := 59) rfl rfl rfl rfl ?_
        refine WL.gn (dj := 59) rfl rfl rfl rfl ?_
        refine WL.y rfl (Yd.pickF rfl rfl) ?_
        refine WL.y rfl (Yd.move rfl) ?_
        refine WL.gn (dj := 66) rfl rfl rfl rfl ?_
        refine WL.gn (dj := 66) rfl rfl rfl rfl ?_
        refine WL.gn (dj := 66) rfl rfl rfl rfl ?_
        refine WL.gn (dj := 66) rfl rfl rfl rfl ?_
        refine WL.gn (dj := 66) rfl rfl rfl rfl ?_
        refine WL.gn (dj := 66) rfl rfl rfl rfl ?_
        refine WL.gn (dj := 66) rfl rfl rfl rfl ?_
        refine WL.y rfl (Yd.pickF rfl rfl) ?_
        refine WL.y rfl (Yd.move rfl) ?_
        refine WL.gn (dj := 75) rfl rfl rfl rfl ?_
        refine WL.gn (dj := 75) rfl rfl rfl rfl ?_
        refine WL.gn (dj := 75) rfl rfl rfl rfl ?_
        refine WL.gn (dj := 75) rfl rfl rfl rfl ?_
        refine WL.gn (dj := 75) rfl rfl rfl rfl ?_
        refine WL.gn (dj := 75) rfl rfl rfl rfl ?_
        refine WL.gn (dj := 75) rfl rfl rfl rfl ?_
        refine WL.y rfl (Yd.pickF rfl rfl) ?_
        refine WL.y rfl (Yd.assign rfl) ?_
        refine WL.nil ?_
        refine DN.then_normal ?_
        refine WC.ret ?_
        refine DN.fit (C := H) (by repeat (first | exact Sp.here | exact Sp.sn | exact Sp.s0 | exact Fr.here | apply Sp.s2 | apply Sp.sx | apply Fr.fc | apply Fr.al | apply Fr.fa | apply Sp.sc | apply Sp.al | apply Sp.sa)) ?_
        refine DN.ret1 Try.results45 rfl ?_
        exact ⟨by congr 1; symm; simp only [sameN, *, decide_true, decide_false, Bool.true_and, Bool.false_and], rfl⟩
    · refine WL.gn (dj := 17) rfl rfl rfl rfl ?_
      refine WL.gn (dj := 17) rfl rfl rfl rfl ?_
      refine WL.gn (dj := 17) rfl rfl rfl rfl ?_
      refine WL.gn (dj := 17) rfl rfl rfl rfl ?_
      refine WL.gn (dj := 17) rfl rfl rfl rfl ?_
      refine WL.y rfl (Yd.pickF rfl rfl) ?_
      refine WL.y rfl (Yd.move rfl) ?_
      refine WL.gn (dj := 24) rfl rfl rfl rfl ?_
      refine WL.gn (dj := 24) rfl rfl rfl rfl ?_
      refine WL.gn (dj := 24) rfl rfl rfl rfl ?_
      refine WL.gn (dj := 24) rfl rfl rfl rfl ?_
      refine WL.gn (dj := 24) rfl rfl rfl rfl ?_
      refine WL.y rfl (Yd.pickF rfl rfl) ?_
      refine WL.y rfl (Yd.move rfl) ?_
      refine WL.gn (dj := 31) rfl rfl rfl rfl ?_
      refine WL.gn (dj := 31) rfl rfl rfl rfl ?_
      refine WL.gn (dj := 31) rfl rfl rfl rfl ?_
      refine WL.gn (dj := 31) rfl rfl rfl rfl ?_
      refine WL.gn (dj := 31) rfl rfl rfl rfl ?_
      refine WL.y rfl (Yd.pickF rfl rfl) ?_
      refine WL.y rfl (Yd.move rfl) ?_
      refine WL.gn (dj := 38) rfl rfl rfl rfl ?_
      refine WL.gn (dj := 38) rfl rfl rfl rfl ?_
      refine WL.gn (dj := 38) rfl rfl rfl rfl ?_
      refine WL.gn (dj := 38) rfl rfl rfl rfl ?_
      refine WL.gn (dj := 38) rfl rfl rfl rfl ?_
      refine WL.y rfl (Yd.pickF rfl rfl) ?_
      refine WL.y rfl (Yd.move rfl) ?_
      refine WL.gn (dj := 45) rfl rfl rfl rfl ?_
      refine WL.gn (dj := 45) rfl rfl rfl rfl ?_
      refine WL.gn (dj := 45) rfl rfl rfl rfl ?_
      refine WL.gn (dj := 45) rfl rfl rfl rfl ?_
      refine WL.gn (dj := 45) rfl rfl rfl rfl ?_
      refine WL.y rfl (Yd.pickF rfl rfl) ?_
      refine WL.y rfl (Yd.move rfl) ?_
      refine WL.gn (dj := 52) rfl rfl rfl rfl ?_
      refine WL.gn (dj := 52) rfl rfl rfl rfl ?_
      refine WL.gn (dj := 52) rfl rfl rfl rfl ?_
      refine WL.gn (dj := 52) rfl rfl rfl rfl ?_
      refine WL.gn (dj := 52) rfl rfl rfl rfl ?_
      refine WL.y rfl (Yd.pickF rfl rfl) ?_
      refine WL.y rfl (Yd.move rfl) ?_
      refine WL.gn (dj := 59) rfl rfl rfl rfl ?_
      refine WL.gn (dj := 59) rfl rfl rfl rfl ?_
      refine WL.gn (dj := 59) rfl rfl rfl rfl ?_
      refine WL.gn (dj := 59) rfl rfl rfl rfl ?_
      refine WL.gn (dj := 59) rfl rfl rfl rfl ?_
      refine WL.y rfl (Yd.pickF rfl rfl) ?_
      refine WL.y rfl (Yd.move rfl) ?_
      refine WL.gn (dj := 66) rfl rfl rfl rfl ?_
      refine WL.gn (dj := 66) rfl rfl rfl rfl ?_
      refine WL.gn (dj := 66) rfl rfl rfl rfl ?_
      refine WL.gn (dj := 66) rfl rfl rfl rfl ?_
      refine WL.gn (dj := 66) rfl rfl rfl rfl ?_
      refine WL.gn (dj := 66) rfl rfl rfl rfl ?_
      refine WL.gn (dj := 66) rfl rfl rfl rfl ?_
      refine WL.y rfl (Yd.pickF rfl rfl) ?_
      refine WL.y rfl (Yd.move rfl) ?_
      refine WL.gn (dj := 75) rfl rfl rfl rfl ?_
      refine WL.gn (dj := 75) rfl rfl rfl rfl ?_
      refine WL.gn (dj := 75) rfl rfl rfl rfl ?_
      refine WL.gn (dj := 75) rfl rfl rfl rfl ?_
      refine WL.gn (dj := 75) rfl rfl rfl rfl ?_
      refine WL.gn (dj := 75) rfl rfl rfl rfl ?_
      refine WL.gn (dj := 75) rfl rfl rfl rfl ?_
      refine WL.y rfl (Yd.pickF rfl rfl) ?_
      refine WL.y rfl (Yd.assign rfl) ?_
      refine WL.nil ?_
      refine DN.then_normal ?_
      refine WC.ret ?_
      refine DN.fit (C := H) (by repeat (first | exact Sp.here | exact Sp.sn | exact Sp.s0 | exact Fr.here | apply Sp.s2 | apply Sp.sx | apply Fr.fc | apply Fr.al | apply Fr.fa | apply Sp.sc | apply Sp.al | apply Sp.sa)) ?_
      refine DN.ret1 Try.results45 rfl ?_
      exact ⟨by congr 1; symm; simp only [sameN, *, decide_true, decide_false, Bool.true_and, Bool.false_and], rfl⟩
  · refine WL.gn (dj := 10) rfl rfl rfl rfl ?_
    refine WL.gn (dj := 10) rfl rfl rfl rfl ?_
    refine WL.gn (dj := 10) rfl rfl rfl rfl ?_
    refine WL.gn (dj := 10) rfl rfl rfl rfl ?_
    refine WL.gn (dj := 10) rfl rfl rfl rfl ?_
    refine WL.y rfl (Yd.pickF rfl rfl) ?_
    refine WL.y rfl (Yd.move rfl) ?_
    refine WL.gn (dj := 17) rfl rfl rfl rfl ?_
    refine WL.gn (dj := 17) rfl rfl rfl rfl ?_
    refine WL.gn (dj := 17) rfl rfl rfl rfl ?_
    refine WL.gn (dj := 17) rfl rfl rfl rfl ?_
    refine WL.gn (dj := 17) rfl rfl rfl rfl ?_
    refine WL.y rfl (Yd.pickF rfl rfl) ?_
    refine WL.y rfl (Yd.move rfl) ?_
    refine WL.gn (dj := 24) rfl rfl rfl rfl ?_
    refine WL.gn (dj := 24) rfl rfl rfl rfl ?_
    refine WL.gn (dj := 24) rfl rfl rfl rfl ?_
    refine WL.gn (dj := 24) rfl rfl rfl rfl ?_
    refine WL.gn (dj := 24) rfl rfl rfl rfl ?_
    refine WL.y rfl (Yd.pickF rfl rfl) ?_
    refine WL.y rfl (Yd.move rfl) ?_
    refine WL.gn (dj := 31) rfl rfl rfl rfl ?_
    refine WL.gn (dj := 31) rfl rfl rfl rfl ?_
    refine WL.gn (dj := 31) rfl rfl rfl rfl ?_
    refine WL.gn (dj := 31) rfl rfl rfl rfl ?_
    refine WL.gn (dj := 31) rfl rfl rfl rfl ?_
    refine WL.y rfl (Yd.pickF rfl rfl) ?_
    refine WL.y rfl (Yd.move rfl) ?_
    refine WL.gn (dj := 38) rfl rfl rfl rfl ?_
    refine WL.gn (dj := 38) rfl rfl rfl rfl ?_
    refine WL.gn (dj := 38) rfl rfl rfl rfl ?_
    refine WL.gn (dj := 38) rfl rfl rfl rfl ?_
    refine WL.gn (dj := 38) rfl rfl rfl rfl ?_
    refine WL.y rfl (Yd.pickF rfl rfl) ?_
    refine WL.y rfl (Yd.move rfl) ?_
    refine WL.gn (dj := 45) rfl rfl rfl rfl ?_
    refine WL.gn (dj := 45) rfl rfl rfl rfl ?_
    refine WL.gn (dj := 45) rfl rfl rfl rfl ?_
    refine WL.gn (dj := 45) rfl rfl rfl rfl ?_
    refine WL.gn (dj := 45) rfl rfl rfl rfl ?_
    refine WL.y rfl (Yd.pickF rfl rfl) ?_
    refine WL.y rfl (Yd.move rfl) ?_
    refine WL.gn (dj := 52) rfl rfl rfl rfl ?_
    refine WL.gn (dj := 52) rfl rfl rfl rfl ?_
    refine WL.gn (dj := 52) rfl rfl rfl rfl ?_
    refine WL.gn (dj := 52) rfl rfl rfl rfl ?_
    refine WL.gn (dj := 52) rfl rfl rfl rfl ?_
    refine WL.y rfl (Yd.pickF rfl rfl) ?_
    refine WL.y rfl (Yd.move rfl) ?_
    refine WL.gn (dj := 59) rfl rfl rfl rfl ?_
    refine WL.gn (dj := 59) rfl rfl rfl rfl ?_
    refine WL.gn (dj := 59) rfl rfl rfl rfl ?_
    refine WL.gn (dj := 59) rfl rfl rfl rfl ?_
    refine WL.gn (dj := 59) rfl rfl rfl rfl ?_
    refine WL.y rfl (Yd.pickF rfl rfl) ?_
    refine WL.y rfl (Yd.move rfl) ?_
    refine WL.gn (dj := 66) rfl rfl rfl rfl ?_
    refine WL.gn (dj := 66) rfl rfl rfl rfl ?_
    refine WL.gn (dj := 66) rfl rfl rfl rfl ?_
    refine WL.gn (dj := 66) rfl rfl rfl rfl ?_
    refine WL.gn (dj := 66) rfl rfl rfl rfl ?_
    refine WL.gn (dj := 66) rfl rfl rfl rfl ?_
    refine WL.gn (dj := 66) rfl rfl rfl rfl ?_
    refine WL.y rfl (Yd.pickF rfl rfl) ?_
    refine WL.y rfl (Yd.move rfl) ?_
    refine WL.gn (dj := 75) rfl rfl rfl rfl ?_
    refine WL.gn (dj := 75) rfl rfl rfl rfl ?_
    refine WL.gn (dj := 75) rfl rfl rfl rfl ?_
    refine WL.gn (dj := 75) rfl rfl rfl rfl ?_
    refine WL.gn (dj := 75) rfl rfl rfl rfl ?_
    refine WL.gn (dj := 75) rfl rfl rfl rfl ?_
    refine WL.gn (dj := 75) rfl rfl rfl rfl ?_
    refine WL.y rfl (Yd.pickF rfl rfl) ?_
    refine WL.y rfl (Yd.assign rfl) ?_
    refine WL.nil ?_
    refine DN.then_normal ?_
    refine WC.ret ?_
    refine DN.fit (C := H) (by repeat (first | exact Sp.here | exact Sp.sn | exact Sp.s0 | exact Fr.here | apply Sp.s2 | apply Sp.sx | apply Fr.fc | apply Fr.al | apply Fr.fa | apply Sp.sc | apply Sp.al | apply Sp.sa)) ?_
    refine DN.ret1 Try.results45 rfl ?_
    exact ⟨by congr 1; symm; simp only [sameN, *, decide_true, decide_false, Bool.true_and, Bool.false_and], rfl⟩

/-- drayage/drayageref18.Same -/
theorem same18_reads (a b : Lt) (vk vd uk ud : Value) (H : List Ck) (h1 : Bs vk a.n.key H) (h2 : Bs vd a.n.data H) (h3 : Bs uk b.n.key H) (h4 : Bs ud b.n.data H) : Reads Try.prog 25 [.agg (ltc a vk vd).toArray, .agg (ltc b uk ud).toArray] H (.bool (sameL a b)) := by
  refine Tells.enter Try.func25 rfl Try.ntmps25 rfl ?_
  intro w0 R
  obtain ⟨o1, c1, rfl, _⟩ := h1.form
  obtain ⟨o2, c2, rfl, _⟩ := h2.form
  obtain ⟨o3, c3, rfl, _⟩ := h3.form
  obtain ⟨o4, c4, rfl, _⟩ := h4.form
  refine WC.seq ?_
  refine WC.region ?_
  refine WL.h rfl (Hd.boxA rfl fun b2 => ⟨_, rfl, ?_⟩)
  refine WL.h rfl (Hd.boxA rfl fun b3 => ⟨_, rfl, ?_⟩)
  refine WL.y rfl (Yd.assign rfl) ?_
  refine WL.nil ?_
  refine DN.then_normal ?_
  refine WC.seq ?_
  refine WC.region ?_
  refine WL.y rfl (Yd.fieldAddr (k := 0) (by kernel_rfl) rfl) ?_
  refine WL.h rfl (Hd.load1 (by kernel_rfl) rfl (by repeat (first | exact List.mem_cons_self | apply List.mem_cons_of_mem | apply List.mem_append_right)) (by rfl) ⟨_, rfl, ?_⟩)
  refine WL.y rfl (Yd.fieldAddr (k := 0) (by kernel_rfl) rfl) ?_
  refine WL.h rfl (Hd.load1 (by kernel_rfl) rfl (by repeat (first | exact List.mem_cons_self | apply List.mem_cons_of_mem | apply List.mem_append_right)) (by rfl) ⟨_, rfl, ?_⟩)
  refine WL.y rfl (Yd.eql rfl rfl) ?_
  refine WL.y rfl (Yd.move rfl) ?_
  refine WL.partP (t := 10) rfl (fun hg10 => ?_) (fun hg10 => ?_)
  · refine WL.gy (dj := 10) rfl rfl rfl (Yd.fieldAddr (k := 1) (by kernel_rfl) rfl) ?_
    refine WL.gh (dj := 10) rfl rfl rfl (Hd.load1 (by kernel_rfl) rfl (by repeat (first | exact List.mem_cons_self | apply List.mem_cons_of_mem | apply List.mem_append_right)) (by rfl) ⟨_, rfl, ?_⟩)
    refine WL.gy (dj := 10) rfl rfl rfl (Yd.fieldAddr (k := 1) (by kernel_rfl) rfl) ?_
    refine WL.gh (dj := 10) rfl rfl rfl (Hd.load1 (by kernel_rfl) rfl (by repeat (first | exact List.mem_cons_self | apply List.mem_cons_of_mem | apply List.mem_append_right)) (by rfl) ⟨_, rfl, ?_⟩)
    refine WL.gy (dj := 10) rfl rfl rfl (Yd.eql rfl rfl) ?_
    refine WL.y rfl (Yd.pickT rfl rfl) ?_
    refine WL.y rfl (Yd.move rfl) ?_
    refine WL.partP (t := 17) rfl (fun hg17 => ?_) (fun hg17 => ?_)
    · refine WL.gy (dj := 17) rfl rfl rfl (Yd.fieldAddr (k := 2) (by kernel_rfl) rfl) ?_
      refine WL.gh (dj := 17) rfl rfl rfl (Hd.loadA (n := 11) (vs := [_, _, _, _, _, _, _, _, _, _, _]) (by kernel_rfl) rfl (by repeat (first | exact List.mem_cons_self | apply List.mem_cons_of_mem | apply List.mem_append_right)) (by rfl) (by rfl) ⟨_, rfl, ?_⟩)
      refine WL.gy (dj := 17) rfl rfl rfl (Yd.fieldAddr (k := 2) (by kernel_rfl) rfl) ?_
      refine WL.gh (dj := 17) rfl rfl rfl (Hd.loadA (n := 11) (vs := [_, _, _, _, _, _, _, _, _, _, _]) (by kernel_rfl) rfl (by repeat (first | exact List.mem_cons_self | apply List.mem_cons_of_mem | apply List.mem_append_right)) (by rfl) (by rfl) ⟨_, rfl, ?_⟩)
      refine WL.gr (dj := 17) rfl rfl rfl (Ent.func Try.call45 rfl) (same05_reads a.n b.n _ _ _ _ _ (h1.mono (by repeat (first | exact Gr.refl | exact Gr.left Gr.refl | exact Gr.nil | exact Gr.app (Gr.left Gr.refl) | refine Gr.cons ?_ | refine Gr.app ?_ | refine Gr.both ?_ ?_ | refine Gr.put (by repeat (first | exact List.mem_cons_self | apply List.mem_cons_of_mem | apply List.mem_append_right)) ?_))) (h2.mono (by repeat (first | exact Gr.refl | exact Gr.left Gr.refl | exact Gr.nil | exact Gr.app (Gr.left Gr.refl) | refine Gr.cons ?_ | refine Gr.app ?_ | refine Gr.both ?_ ?_ | refine Gr.put (by repeat (first | exact List.mem_cons_self | apply List.mem_cons_of_mem | apply List.mem_append_right)) ?_))) (h3.mono (by repeat (first | exact Gr.refl | exact Gr.left Gr.refl | exact Gr.nil | exact Gr.app (Gr.left Gr.refl) | refine Gr.cons ?_ | refine Gr.app ?_ | refine Gr.both ?_ ?_ | refine Gr.put (by repeat (first | exact List.mem_cons_self | apply List.mem_cons_of_mem | apply List.mem_append_right)) ?_))) (h4.mono (by repeat (first | exact Gr.refl | exact Gr.left Gr.refl | exact Gr.nil | exact Gr.app (Gr.left Gr.refl) | refine Gr.cons ?_ | refine Gr.app ?_ | refine Gr.both ?_ ?_ | refine Gr.put (by repeat (first | exact List.mem_cons_self | apply List.mem_cons_of_mem | apply List.mem_append_right)) ?_)))) ?_
      refine WL.y rfl (Yd.pickT rfl rfl) ?_
      refine WL.y rfl (Yd.assign rfl) ?_
      refine WL.nil ?_
      refine DN.then_normal ?_
      refine WC.ret ?_
      refine DN.fit (C := H) (by repeat (first | exact Sp.here | exact Sp.sn | exact Sp.s0 | exact Fr.here | apply Sp.s2 | apply Sp.sx | apply Fr.fc | apply Fr.al | apply Fr.fa | apply Sp.sc | apply Sp.al | apply Sp.sa)) ?_
      refine DN.ret1 Try.results25 rfl ?_
      exact ⟨by congr 1; symm; simp only [sameL, *, decide_true, decide_false, Bool.true_and, Bool.false_and], rfl⟩
    · refine WL.gn (dj := 17) rfl rfl rfl rfl ?_
      refine WL.gn (dj := 17) rfl rfl rfl rfl ?_
      refine WL.gn (dj := 17) rfl rfl rfl rfl ?_
      refine WL.gn (dj := 17) rfl rfl rfl rfl ?_
      refine WL.gn (dj := 17) rfl rfl rfl rfl ?_
      refine WL.y rfl (Yd.pickF rfl rfl) ?_
      refine WL.y rfl (Yd.assign rfl) ?_
      refine WL.nil ?_
      refine DN.then_normal ?_
      refine WC.ret ?_
      refine DN.fit (C := H) (by repeat (first | exact Sp.here | exact Sp.sn | exact Sp.s0 | exact Fr.here | apply Sp.s2 | apply Sp.sx | apply Fr.fc | apply Fr.al | apply Fr.fa | apply Sp.sc | apply Sp.al | apply Sp.sa)) ?_
      refine DN.ret1 Try.results25 rfl ?_
      exact ⟨by congr 1; symm; simp only [sameL, *, decide_true, decide_false, Bool.true_and, Bool.false_and], rfl⟩
  · refine WL.gn (dj := 10) rfl rfl rfl rfl ?_
    refine WL.gn (dj := 10) rfl rfl rfl rfl ?_
    refine WL.gn (dj := 10) rfl rfl rfl rfl ?_
    refine WL.gn (dj := 10) rfl rfl rfl rfl ?_
    refine WL.gn (dj := 10) rfl rfl rfl rfl ?_
    refine WL.y rfl (Yd.pickF rfl rfl) ?_
    refine WL.y rfl (Yd.move rfl) ?_
    refine WL.gn (dj := 17) rfl rfl rfl rfl ?_
    refine WL.gn (dj := 17) rfl rfl rfl rfl ?_
    refine WL.gn (dj := 17) rfl rfl rfl rfl ?_
    refine WL.gn (dj := 17) rfl rfl rfl rfl ?_
    refine WL.gn (dj := 17) rfl rfl rfl rfl ?_
    refine WL.y rfl (Yd.pickF rfl rfl) ?_
    refine WL.y rfl (Yd.assign rfl) ?_
    refine WL.nil ?_
    refine DN.then_normal ?_
    refine WC.ret ?_
    refine DN.fit (C := H) (by repeat (first | exact Sp.here | exact Sp.sn | exact Sp.s0 | exact Fr.here | apply Sp.s2 | apply Sp.sx | apply Fr.fc | apply Fr.al | apply Fr.fa | apply Sp.sc | apply Sp.al | apply Sp.sa)) ?_
    refine DN.ret1 Try.results25 rfl ?_
    exact ⟨by congr 1; symm; simp only [sameL, *, decide_true, decide_false, Bool.true_and, Bool.false_and], rfl⟩

/-- drayage/drayagelaw18.long -/
theorem long_reads (v : Value) (xs : List Value) (aq : List Aw) (H : List Ck) (hv : Rs v aq.length xs H) (hx : xs.length = aq.length * 17) (hl : aq.length ≤ 9223372036854775807) (hA : AwsAt xs aq H) : Tells Try.prog 17 [v] H fun r H' => H' = H ∧ ∃ b, r = .bool b ∧ (b = false → ∀ j (h : j < aq.length), j < 400 → aq[j].L.n.key.length ≤ 500 ∧ aq[j].L.n.data.length ≤ 500) := by
  refine Tells.enter Try.func17 rfl Try.ntmps17 rfl ?_
  intro w0 R
  obtain ⟨vo, vc, rfl, _⟩ := hv.form
  refine WC.seq ?_
  refine WC.region ?_
  refine WL.y rfl (Yd.assign rfl) ?_
  refine WL.nil ?_
  refine DN.then_normal ?_
  refine WC.seq ?_
  refine WC.seq ?_
  refine WC.region ?_
  refine WL.y rfl (Yd.assign rfl) ?_
  refine WL.nil ?_
  refine DN.then_normal ?_
  refine WC.block ?_
  refine WC.loopS (fun z : Nat => z ≤ aq.length ∧ ∀ j (h : j < aq.length), j < z → aq[j].L.n.key.length ≤ 500 ∧ aq[j].L.n.data.length ≤ 500) (fun z : Nat => [(3, .int .i64 (z : Int))]) (fun z : Nat => H) (fun z : Nat => aq.length - z) (0) (show 0 ≤ aq.length ∧ ∀ j (h : j < aq.length), j < 0 → aq[j].L.n.key.length ≤ 500 ∧ aq[j].L.n.data.length ≤ 500 from ⟨Nat.zero_le _, fun j h hj => by omega⟩) (Sx.put rfl ((by repeat (first | exact Sx.refl | refine Sx.skip rfl ?_)))) (by repeat (first | exact Sp.here | exact Sp.sn | exact Sp.s0 | exact Fr.here | apply Sp.s2 | apply Sp.sx | apply Fr.fc | apply Fr.al | apply Fr.fa | apply Sp.sc | apply Sp.al | apply Sp.sa)) ?_
  rintro i hI
  replace hI : i ≤ aq.length ∧ ∀ j (h : j < aq.length), j < i → aq[j].L.n.key.length ≤ 500 ∧ aq[j].L.n.data.length ≤ 500 := hI
  obtain ⟨hi, hno⟩ := hI
  change WC _ _ _ _ _ _ ([(3, .int .i64 (i : Int))] ++ _) (H)
  refine WC.seq ?_
  refine WC.seq ?_
  refine WC.region ?_
  refine WL.y rfl (Yd.move rfl) ?_
  refine WL.y rfl (Yd.move rfl) ?_
  refine WL.y rfl (Yd.len (e := 50) (by kernel_rfl) rfl) ?_
  refine WL.y rfl (Yd.lss rfl rfl) ?_
  refine WL.y rfl (Yd.move rfl) ?_
  refine WL.partP (t := 8) rfl (fun hg8 => ?_) (fun hg8 => ?_)
  · refine WL.gy (dj := 8) rfl rfl rfl (Yd.move rfl) ?_
    refine WL.gy (dj := 8) rfl rfl rfl (Yd.lss rfl rfl) ?_
    refine WL.y rfl (Yd.pickT rfl rfl) ?_
    refine WL.nil ?_
    refine DN.then_normal ?_
    refine WC.ite rfl (fun h11 => ?_) (fun h11 => ?_)
    · have hlt : i < aq.length := by omega
      obtain ⟨vk, vd, hcell, hk, hd, _, _⟩ := hA i hlt
      obtain ⟨ko, kc, rfl, _⟩ := hk.form
      obtain ⟨eo, ec, rfl, _⟩ := hd.form
      obtain ⟨b0, o0, rfl, c0, T0, fr0, ex0, hm0, hc0⟩ : ∃ b o, vo = some ⟨b, o, none⟩ ∧ ∃ (c0 : List Value) (T0 : TypeId) (fr0 : Nat × Nat) (ex0 : Bool), (⟨b, .cells c0.toArray T0 fr0, ex0⟩ : Ck) ∈ H ∧ ∀ (k : Nat) u, (awc aq[i] (.slice ko aq[i].L.n.key.length kc) (.slice eo aq[i].L.n.data.length ec))[k]? = some u → c0[o + i * 17 + k]? = some u := by
        obtain ⟨b, o, cs, T, fr, ex, h1, h2, h3⟩ := hv.at (by intro e; rw [e] at hx; simp at hx; omega)
        refine ⟨b, o, h1, cs.toList, T, fr, ex, by simpa using h2, fun k u hu => ?_⟩
        rw [← hcell, List.getElem?_take] at hu
        split at hu
        · rw [List.getElem?_drop] at hu
          have := h3 _ _ hu
          simpa [Nat.add_assoc] using this
        · cases hu
      refine WC.skip ?_
      refine DN.then_normal ?_
      refine WC.seq ?_
      refine WC.block ?_
      refine WC.seq ?_
      refine WC.region ?_
      refine WL.y rfl (Yd.move rfl) ?_
      refine WL.y rfl (Yd.move rfl) ?_
      refine WL.y rfl (Yd.indexAddr (e := 50) (s := 17) (by kernel_rfl) (by kernel_rfl) rfl rfl (by omega) (by omega)) ?_
      refine WL.y rfl (Yd.fieldAddr (k := 1) (by kernel_rfl) rfl) ?_
      refine WL.y rfl (Yd.fieldAddr (k := 2) (by kernel_rfl) rfl) ?_
      refine WL.y rfl (Yd.fieldAddr (k := 9) (by kernel_rfl) rfl) ?_
      refine WL.h rfl (Hd.load1 (v := .slice ko aq[i].L.n.key.length kc) (by kernel_rfl) rfl hm0 (by rw [show o0 + (i : Int).toNat * 17 + 1 + 2 + 9 = o0 + i * 17 + 12 by omega]; exact hc0 12 _ rfl) ⟨_, rfl, ?_⟩)
      refine WL.y rfl (Yd.len (e := 5) (by kernel_rfl) rfl) ?_
      refine WL.y rfl (Yd.gtr rfl rfl) ?_
      refine WL.y rfl (Yd.move rfl) ?_
      refine WL.partP (t := 23) rfl (fun hg23 => ?_) (fun hg23 => ?_)
      · refine WL.gn (dj := 23) rfl rfl rfl rfl ?_
        refine WL.gn (dj := 23) rfl rfl rfl rfl ?_
        refine WL.gn (dj := 23) rfl rfl rfl rfl ?_
        refine WL.gn (dj := 23) rfl rfl rfl rfl ?_
        refine WL.gn (dj := 23) rfl rfl rfl rfl ?_
        refine WL.gn (dj := 23) rfl rfl rfl rfl ?_
        refine WL.gn (dj := 23) rfl rfl rfl rfl ?_
        refine WL.gn (dj := 23) rfl rfl rfl rfl ?_
        refine WL.gn (dj := 23) rfl rfl rfl rfl ?_
        refine WL.y rfl (Yd.pickT rfl rfl) ?_
        refine WL.nil ?_
        refine DN.then_normal ?_
        refine WC.yes rfl ?_
        refine WC.seq ?_
        refine WC.region ?_
        refine WL.y rfl (Yd.assign rfl) ?_
        refine WL.nil ?_
        refine DN.then_normal ?_
        refine WC.ret ?_
        refine DN.block_ret ?_
        refine DN.then_ret ?_
        refine DN.then_ret ?_
        refine DN.block_ret ?_
        refine DN.then_ret ?_
        refine DN.ret1 Try.results17 rfl ?_
        first | exact ⟨rfl, true, rfl, fun e => by cases e⟩ | exact ⟨rfl, false, rfl, fun _ j h hj => hno j h (by omega)⟩
      · refine WL.gy (dj := 23) rfl rfl rfl (Yd.move rfl) ?_
        refine WL.gy (dj := 23) rfl rfl rfl (Yd.move rfl) ?_
        refine WL.gy (dj := 23) rfl rfl rfl (Yd.indexAddr (e := 50) (s := 17) (by kernel_rfl) (by kernel_rfl) rfl rfl (by omega) (by omega)) ?_
        refine WL.gy (dj := 23) rfl rfl rfl (Yd.fieldAddr (k := 1) (by kernel_rfl) rfl) ?_
        refine WL.gy (dj := 23) rfl rfl rfl (Yd.fieldAddr (k := 2) (by kernel_rfl) rfl) ?_
        refine WL.gy (dj := 23) rfl rfl rfl (Yd.fieldAddr (k := 10) (by kernel_rfl) rfl) ?_
        refine WL.gh (dj := 23) rfl rfl rfl (Hd.load1 (v := .slice eo aq[i].L.n.data.length ec) (by kernel_rfl) rfl hm0 (by rw [show o0 + (i : Int).toNat * 17 + 1 + 2 + 10 = o0 + i * 17 + 13 by omega]; exact hc0 13 _ rfl) ⟨_, rfl, ?_⟩)
        refine WL.gy (dj := 23) rfl rfl rfl (Yd.len (e := 5) (by kernel_rfl) rfl) ?_
        refine WL.gy (dj := 23) rfl rfl rfl (Yd.gtr rfl rfl) ?_
        refine WL.y rfl (Yd.pickF rfl rfl) ?_
        refine WL.nil ?_
        refine DN.then_normal ?_
        refine WC.ite rfl (fun h33 => ?_) (fun h33 => ?_)
        · refine WC.seq ?_
          refine WC.region ?_
          refine WL.y rfl (Yd.assign rfl) ?_
          refine WL.nil ?_
          refine DN.then_normal ?_
          refine WC.ret ?_
          refine DN.block_ret ?_
          refine DN.then_ret ?_
          refine DN.then_ret ?_
          refine DN.block_ret ?_
          refine DN.then_ret ?_
          refine DN.ret1 Try.results17 rfl ?_
          first | exact ⟨rfl, true, rfl, fun e => by cases e⟩ | exact ⟨rfl, false, rfl, fun _ j h hj => hno j h (by omega)⟩
        · refine WC.skip ?_
          refine DN.block_normal ?_
          refine DN.then_normal ?_
          refine WC.region ?_
          refine WL.y rfl (Yd.move rfl) ?_
          refine WL.y rfl (Yd.add rfl rfl (by omega) (by omega)) ?_
          refine WL.y rfl (Yd.assign rfl) ?_
          refine WL.nil ?_
          exact DN.againS (i + 1) (show (i + 1) ≤ aq.length ∧ ∀ j (h : j < aq.length), j < (i + 1) → aq[j].L.n.key.length ≤ 500 ∧ aq[j].L.n.data.length ≤ 500 from ⟨by omega, fun j h hj => by by_cases e : j = i; (subst e; exact ⟨by omega, by omega⟩); exact hno j h (by omega)⟩) (show aq.length - (i + 1) < aq.length - i by omega) (Sx.put rfl ((by repeat (first | exact Sx.refl | refine Sx.skip rfl ?_)))) (by repeat (first | exact Sp.here | exact Sp.sn | exact Sp.s0 | exact Fr.here | apply Sp.s2 | apply Sp.sx | apply Fr.fc | apply Fr.al | apply Fr.fa | apply Sp.sc | apply Sp.al | apply Sp.sa))
    · refine WC.exit ?_
      refine DN.then_exit ?_
      refine DN.then_exit ?_
      refine DN.block_exit ?_
      refine DN.then_normal ?_
      refine WC.seq ?_
      refine WC.region ?_
      refine WL.y rfl (Yd.assign rfl) ?_
      refine WL.nil ?_
      refine DN.then_normal ?_
      refine WC.ret ?_
      refine DN.ret1 Try.results17 rfl ?_
      first | exact ⟨rfl, true, rfl, fun e => by cases e⟩ | exact ⟨rfl, false, rfl, fun _ j h hj => hno j h (by omega)⟩
  · refine WL.gn (dj := 8) rfl rfl rfl rfl ?_
    refine WL.gn (dj := 8) rfl rfl rfl rfl ?_
    refine WL.y rfl (Yd.pickF rfl rfl) ?_
    refine WL.nil ?_
    refine DN.then_normal ?_
    refine WC.no rfl ?_
    refine WC.exit ?_
    refine DN.then_exit ?_
    refine DN.then_exit ?_
    refine DN.block_exit ?_
    refine DN.then_normal ?_
    refine WC.seq ?_
    refine WC.region ?_
    refine WL.y rfl (Yd.assign rfl) ?_
    refine WL.nil ?_
    refine DN.then_normal ?_
    refine WC.ret ?_
    refine DN.ret1 Try.results17 rfl ?_
    first | exact ⟨rfl, true, rfl, fun e => by cases e⟩ | exact ⟨rfl, false, rfl, fun _ j h hj => hno j h (by omega)⟩

/-- drayage/drayagelaw18.has -/
theorem has_reads (v : Value) (cs : List Value) (sn : List Lt) (C H : List Ck) (hv : Own v sn.length cs 34 13 C) (hb : sn.length ≤ 1000) (hE : ∀ j (h : j < sn.length), LetE ((cs.drop (j * 13)).take 13) sn[j] H) (a : Lt) (vk vd : Value) (h1 : Bs vk a.n.key H) (h2 : Bs vd a.n.data H) : Reads Try.prog 18 [v, .agg (ltc a vk vd).toArray] (C ++ H) (.bool (sn.any fun M => sameL M a)) := by
  refine Tells.enter Try.func18 rfl Try.ntmps18 rfl ?_
  intro w0 R
  obtain ⟨vo, vc, rfl, _⟩ := hv.form
  obtain ⟨o1, c1, rfl, _⟩ := h1.form
  obtain ⟨o2, c2, rfl, _⟩ := h2.form
  refine WC.seq ?_
  refine WC.region ?_
  refine WL.h rfl (Hd.boxA rfl fun b3 => ⟨_, rfl, ?_⟩)
  refine WL.y rfl (Yd.assign rfl) ?_
  refine WL.nil ?_
  refine DN.then_normal ?_
  refine WC.seq ?_
  refine WC.seq ?_
  refine WC.region ?_
  refine WL.y rfl (Yd.assign rfl) ?_
  refine WL.nil ?_
  refine DN.then_normal ?_
  refine WC.block ?_
  refine WC.loopS (fun z : Nat => z ≤ sn.length ∧ ∀ j (h : j < sn.length), j < z → sameL sn[j] a = false) (fun z : Nat => [(5, .int .i64 (z : Int))]) (fun z : Nat => row b3 (ltc a (.slice o1 a.n.key.length c1) (.slice o2 a.n.data.length c2)) 34 :: (C ++ H)) (fun z : Nat => sn.length - z) (0) (show 0 ≤ sn.length ∧ ∀ j (h : j < sn.length), j < 0 → sameL sn[j] a = false from ⟨Nat.zero_le _, fun j h hj => by omega⟩) (Sx.put rfl ((by repeat (first | exact Sx.refl | refine Sx.skip rfl ?_)))) (by repeat (first | exact Sp.here | exact Sp.sn | exact Sp.s0 | exact Fr.here | apply Sp.s2 | apply Sp.sx | apply Fr.fc | apply Fr.al | apply Fr.fa | apply Sp.sc | apply Sp.al | apply Sp.sa)) ?_
  rintro i hI
  replace hI : i ≤ sn.length ∧ ∀ j (h : j < sn.length), j < i → sameL sn[j] a = false := hI
  obtain ⟨hi, hno⟩ := hI
  change WC _ _ _ _ _ _ ([(5, .int .i64 (i : Int))] ++ _) (row b3 (ltc a (.slice o1 a.n.key.length c1) (.slice o2 a.n.data.length c2)) 34 :: (C ++ H))
  refine WC.seq ?_
  refine WC.seq ?_
  refine WC.region ?_
  refine WL.y rfl (Yd.move rfl) ?_
  refine WL.y rfl (Yd.move rfl) ?_
  refine WL.y rfl (Yd.len (e := 34) (by kernel_rfl) rfl) ?_
  refine WL.y rfl (Yd.lss rfl rfl) ?_
  refine WL.nil ?_
  refine DN.then_normal ?_
  refine WC.ite rfl (fun h9 => ?_) (fun h9 => ?_)
  · have hlt : i < sn.length := by omega
    obtain ⟨uk, ud, hcell, hk, hd, _, _⟩ := hE i hlt
    obtain ⟨b0, o0, rfl, c0, T0, fr0, ex0, hm0, hc0⟩ : ∃ b o, vo = some ⟨b, o, none⟩ ∧ ∃ (c0 : List Value) (T0 : TypeId) (fr0 : Nat × Nat) (ex0 : Bool), (⟨b, .cells c0.toArray T0 fr0, ex0⟩ : Ck) ∈ C ∧ (c0.drop (o + i * 13)).take 13 = ltc sn[i] uk ud := by
      rcases hv with ⟨_, h0, _⟩ | ⟨b, cap, extra, he, hc1, hc2, hcl, hel, rfl⟩
      · omega
      · simp only [Value.slice.injEq] at he
        refine ⟨b, 0, he.1, cs ++ extra, _, _, _, List.mem_cons_self, ?_⟩
        rw [Nat.zero_add, List.drop_append_of_le_length (by omega), List.take_append_of_le_length (by rw [List.length_drop]; omega)]
        exact hcell
    refine WC.skip ?_
    refine DN.then_normal ?_
    refine WC.seq ?_
    refine WC.block ?_
    refine WC.seq ?_
    refine WC.draw 6 (by kernel_rfl) rfl ?_
    refine WA.y (i := 0) (NoPanic.then (NoPanic.block (NoPanic.then (NoPanic.then (NoPanic.block (NoPanic.then (NoPanic.body))))))) rfl (by kernel_rfl) (by kernel_rfl) (by kernel_rfl) rfl (Yd.move rfl) ?_
    refine WA.y (i := 1) (NoPanic.then (NoPanic.block (NoPanic.then (NoPanic.then (NoPanic.block (NoPanic.then (NoPanic.body))))))) rfl (by kernel_rfl) (by kernel_rfl) (by kernel_rfl) rfl (Yd.move rfl) ?_
    refine WA.y (i := 2) (NoPanic.then (NoPanic.block (NoPanic.then (NoPanic.then (NoPanic.block (NoPanic.then (NoPanic.body))))))) rfl (by kernel_rfl) (by kernel_rfl) (by kernel_rfl) rfl (Yd.indexAddr (e := 34) (s := 13) (by kernel_rfl) (by kernel_rfl) rfl rfl (by omega) (by omega)) ?_
    refine WA.two (i := 3) (j := 4) (by kernel_rfl) ?_ ?_
    · refine WO.h rfl Wt.none rfl (Hd.loadA (n := 13) (vs := ltc sn[i] uk ud) (by kernel_rfl) rfl (List.mem_cons_of_mem _ (List.mem_append_left _ hm0)) (by rfl) (by rw [← hc0]; congr 2) ⟨_, rfl, ?_⟩)
      refine WA.one (i := 4) (by kernel_rfl) ?_
      refine WO.h rfl Wt.none rfl (Hd.loadAll (n := 13) (by kernel_rfl) rfl (by repeat (first | exact List.mem_cons_self | apply List.mem_cons_of_mem | apply List.mem_append_right)) (by rfl) ⟨_, rfl, ?_⟩)
      refine WA.one (i := 5) (by kernel_rfl) ?_
      refine WO.r rfl Wt.none rfl (Ent.func Try.call25 rfl) (same18_reads sn[i] a uk ud _ _ _ (hk.mono (by repeat (first | exact Gr.refl | exact Gr.left Gr.refl | exact Gr.nil | exact Gr.app (Gr.left Gr.refl) | refine Gr.cons ?_ | refine Gr.app ?_ | refine Gr.both ?_ ?_ | refine Gr.put (by repeat (first | exact List.mem_cons_self | apply List.mem_cons_of_mem | apply List.mem_append_right)) ?_))) (hd.mono (by repeat (first | exact Gr.refl | exact Gr.left Gr.refl | exact Gr.nil | exact Gr.app (Gr.left Gr.refl) | refine Gr.cons ?_ | refine Gr.app ?_ | refine Gr.both ?_ ?_ | refine Gr.put (by repeat (first | exact List.mem_cons_self | apply List.mem_cons_of_mem | apply List.mem_append_right)) ?_))) (h1.mono (by repeat (first | exact Gr.refl | exact Gr.left Gr.refl | exact Gr.nil | exact Gr.app (Gr.left Gr.refl) | refine Gr.cons ?_ | refine Gr.app ?_ | refine Gr.both ?_ ?_ | refine Gr.put (by repeat (first | exact List.mem_cons_self | apply List.mem_cons_of_mem | apply List.mem_append_right)) ?_))) (h2.mono (by repeat (first | exact Gr.refl | exact Gr.left Gr.refl | exact Gr.nil | exact Gr.app (Gr.left Gr.refl) | refine Gr.cons ?_ | refine Gr.app ?_ | refine Gr.both ?_ ?_ | refine Gr.put (by repeat (first | exact List.mem_cons_self | apply List.mem_cons_of_mem | apply List.mem_append_right)) ?_)))) ?_
      refine WA.done (by kernel_rfl) ?_
      refine DN.then_normal ?_
      refine WC.cond rfl (fun h17 => ?_) (fun h17 => ?_)
      · refine WC.seq ?_
        refine WC.region ?_
        refine WL.y rfl (Yd.assign rfl) ?_
        refine WL.nil ?_
        refine DN.then_normal ?_
        refine WC.ret ?_
        refine DN.block_ret ?_
        refine DN.then_ret ?_
        refine DN.then_ret ?_
        refine DN.block_ret ?_
        refine DN.then_ret ?_
        refine DN.fit (C := C ++ H) (by repeat (first | exact Sp.here | exact Sp.sn | exact Sp.s0 | exact Fr.here | apply Sp.s2 | apply Sp.sx | apply Fr.fc | apply Fr.al | apply Fr.fa | apply Sp.sc | apply Sp.al | apply Sp.sa)) ?_
        refine DN.ret1 Try.results18 rfl ?_
        first
          | (have e : (sn.any fun M => sameL M a) = true := List.any_eq_true.2 ⟨sn[i], List.getElem_mem hlt, h17⟩
             exact ⟨by rw [e], rfl⟩)
          | (have e : (sn.any fun M => sameL M a) = false := by
              rw [List.any_eq_false]
              intro M hM
              obtain ⟨j, hj, rfl⟩ := List.getElem_of_mem hM
              rw [hno j hj (by omega)]
              decide
             exact ⟨by rw [e], rfl⟩)
      · refine WC.skip ?_
        refine DN.block_normal ?_
        refine DN.then_normal ?_
        refine WC.region ?_
        refine WL.y rfl (Yd.move rfl) ?_
        refine WL.y rfl (Yd.add rfl rfl (by omega) (by omega)) ?_
        refine WL.y rfl (Yd.assign rfl) ?_
        refine WL.nil ?_
        exact DN.againS (i + 1) (show (i + 1) ≤ sn.length ∧ ∀ j (h : j < sn.length), j < (i + 1) → sameL sn[j] a = false from ⟨by omega, fun j h hj => by by_cases e : j = i; (subst e; exact h17); exact hno j h (by omega)⟩) (show sn.length - (i + 1) < sn.length - i by omega) (Sx.put rfl ((by repeat (first | exact Sx.refl | refine Sx.skip rfl ?_)))) (by repeat (first | exact Sp.here | exact Sp.sn | exact Sp.s0 | exact Fr.here | apply Sp.s2 | apply Sp.sx | apply Fr.fc | apply Fr.al | apply Fr.fa | apply Sp.sc | apply Sp.al | apply Sp.sa))
    · refine WO.h rfl Wt.none rfl (Hd.loadAll (n := 13) (by kernel_rfl) rfl (by repeat (first | exact List.mem_cons_self | apply List.mem_cons_of_mem | apply List.mem_append_right)) (by rfl) ⟨_, rfl, ?_⟩)
      refine WA.one (i := 3) (by kernel_rfl) ?_
      refine WO.h rfl Wt.none rfl (Hd.loadA (n := 13) (vs := ltc sn[i] uk ud) (by kernel_rfl) rfl (List.mem_cons_of_mem _ (List.mem_append_left _ hm0)) (by rfl) (by rw [← hc0]; congr 2) ⟨_, rfl, ?_⟩)
      refine WA.one (i := 5) (by kernel_rfl) ?_
      refine WO.r rfl Wt.none rfl (Ent.func Try.call25 rfl) (same18_reads sn[i] a uk ud _ _ _ (hk.mono (by repeat (first | exact Gr.refl | exact Gr.left Gr.refl | exact Gr.nil | exact Gr.app (Gr.left Gr.refl) | refine Gr.cons ?_ | refine Gr.app ?_ | refine Gr.both ?_ ?_ | refine Gr.put (by repeat (first | exact List.mem_cons_self | apply List.mem_cons_of_mem | apply List.mem_append_right)) ?_))) (hd.mono (by repeat (first | exact Gr.refl | exact Gr.left Gr.refl | exact Gr.nil | exact Gr.app (Gr.left Gr.refl) | refine Gr.cons ?_ | refine Gr.app ?_ | refine Gr.both ?_ ?_ | refine Gr.put (by repeat (first | exact List.mem_cons_self | apply List.mem_cons_of_mem | apply List.mem_append_right)) ?_))) (h1.mono (by repeat (first | exact Gr.refl | exact Gr.left Gr.refl | exact Gr.nil | exact Gr.app (Gr.left Gr.refl) | refine Gr.cons ?_ | refine Gr.app ?_ | refine Gr.both ?_ ?_ | refine Gr.put (by repeat (first | exact List.mem_cons_self | apply List.mem_cons_of_mem | apply List.mem_append_right)) ?_))) (h2.mono (by repeat (first | exact Gr.refl | exact Gr.left Gr.refl | exact Gr.nil | exact Gr.app (Gr.left Gr.refl) | refine Gr.cons ?_ | refine Gr.app ?_ | refine Gr.both ?_ ?_ | refine Gr.put (by repeat (first | exact List.mem_cons_self | apply List.mem_cons_of_mem | apply List.mem_append_right)) ?_)))) ?_
      refine WA.done (by kernel_rfl) ?_
      refine DN.then_normal ?_
      refine WC.cond rfl (fun h17 => ?_) (fun h17 => ?_)
      · refine WC.seq ?_
        refine WC.region ?_
        refine WL.y rfl (Yd.assign rfl) ?_
        refine WL.nil ?_
        refine DN.then_normal ?_
        refine WC.ret ?_
        refine DN.block_ret ?_
        refine DN.then_ret ?_
        refine DN.then_ret ?_
        refine DN.block_ret ?_
        refine DN.then_ret ?_
        refine DN.fit (C := C ++ H) (by repeat (first | exact Sp.here | exact Sp.sn | exact Sp.s0 | exact Fr.here | apply Sp.s2 | apply Sp.sx | apply Fr.fc | apply Fr.al | apply Fr.fa | apply Sp.sc | apply Sp.al | apply Sp.sa)) ?_
        refine DN.ret1 Try.results18 rfl ?_
        first
          | (have e : (sn.any fun M => sameL M a) = true := List.any_eq_true.2 ⟨sn[i], List.getElem_mem hlt, h17⟩
             exact ⟨by rw [e], rfl⟩)
          | (have e : (sn.any fun M => sameL M a) = false := by
              rw [List.any_eq_false]
              intro M hM
              obtain ⟨j, hj, rfl⟩ := List.getElem_of_mem hM
              rw [hno j hj (by omega)]
              decide
             exact ⟨by rw [e], rfl⟩)
      · refine WC.skip ?_
        refine DN.block_normal ?_
        refine DN.then_normal ?_
        refine WC.region ?_
        refine WL.y rfl (Yd.move rfl) ?_
        refine WL.y rfl (Yd.add rfl rfl (by omega) (by omega)) ?_
        refine WL.y rfl (Yd.assign rfl) ?_
        refine WL.nil ?_
        exact DN.againS (i + 1) (show (i + 1) ≤ sn.length ∧ ∀ j (h : j < sn.length), j < (i + 1) → sameL sn[j] a = false from ⟨by omega, fun j h hj => by by_cases e : j = i; (subst e; exact h17); exact hno j h (by omega)⟩) (show sn.length - (i + 1) < sn.length - i by omega) (Sx.put rfl ((by repeat (first | exact Sx.refl | refine Sx.skip rfl ?_)))) (by repeat (first | exact Sp.here | exact Sp.sn | exact Sp.s0 | exact Fr.here | apply Sp.s2 | apply Sp.sx | apply Fr.fc | apply Fr.al | apply Fr.fa | apply Sp.sc | apply Sp.al | apply Sp.sa))
  · refine WC.exit ?_
    refine DN.then_exit ?_
    refine DN.then_exit ?_
    refine DN.block_exit ?_
    refine DN.then_normal ?_
    refine WC.seq ?_
    refine WC.region ?_
    refine WL.y rfl (Yd.assign rfl) ?_
    refine WL.nil ?_
    refine DN.then_normal ?_
    refine WC.ret ?_
    refine DN.fit (C := C ++ H) (by repeat (first | exact Sp.here | exact Sp.sn | exact Sp.s0 | exact Fr.here | apply Sp.s2 | apply Sp.sx | apply Fr.fc | apply Fr.al | apply Fr.fa | apply Sp.sc | apply Sp.al | apply Sp.sa)) ?_
    refine DN.ret1 Try.results18 rfl ?_
    first
      | (have e : (sn.any fun M => sameL M a) = true := List.any_eq_true.2 ⟨sn[i], List.getElem_mem hlt, h17⟩
         exact ⟨by rw [e], rfl⟩)
      | (have e : (sn.any fun M => sameL M a) = false := by
          rw [List.any_eq_false]
          intro M hM
          obtain ⟨j, hj, rfl⟩ := List.getElem_of_mem hM
          rw [hno j hj (by omega)]
          decide
         exact ⟨by rw [e], rfl⟩)

end Go.Proofs.Ytgpegfmonmdhoaa
