/-
  The walks of notes and letters.
-/
import Derived.Test.YtonnkgblligdkaaRows
import Derived.Test.YtonnkgblligdkaaWireMath
set_option linter.unusedVariables false
set_option linter.unusedSimpArgs false
set_option maxHeartbeats 2000000
namespace Go.Proofs.Ytonnkgblligdkaa
open Go.SL


/-- drayage/note.Names -/
theorem names_reads (k : Int) (H : List Ck) : Reads Try.prog 66 [.int .i64 k] H (.string (nmS k)) := by
  refine Tells.enter Try.func66 rfl Try.ntmps66 rfl ?_
  intro w0 R
  refine WC.seq ?_
  refine WC.region ?_
  refine WL.y rfl (Yd.assign rfl) ?_
  refine WL.nil ?_
  refine DN.then_normal ?_
  refine WC.seq ?_
  refine WC.seq ?_
  refine WC.region ?_
  refine WL.y rfl (Yd.move rfl) ?_
  refine WL.nil ?_
  refine DN.then_normal ?_
  refine WC.block ?_
  refine WC.seq ?_
  refine WC.region ?_
  refine WL.y rfl (Yd.eql rfl rfl) ?_
  refine WL.y rfl (Yd.assign rfl) ?_
  refine WL.nil ?_
  refine DN.then_normal ?_
  refine WC.ite rfl (fun h4 => ?_) (fun h4 => ?_)
  · refine WC.seq ?_
    refine WC.region ?_
    refine WL.y rfl (Yd.assign rfl) ?_
    refine WL.nil ?_
    refine DN.then_normal ?_
    refine WC.ret ?_
    refine DN.block_ret ?_
    refine DN.then_ret ?_
    refine DN.ret1 Try.results66 rfl ?_
    first | (exfalso; omega) | exact ⟨by congr 1; simp [nmS, nm, *], rfl⟩
  · refine WC.seq ?_
    refine WC.seq ?_
    refine WC.region ?_
    refine WL.y rfl (Yd.eql rfl rfl) ?_
    refine WL.y rfl (Yd.assign rfl) ?_
    refine WL.nil ?_
    refine DN.then_normal ?_
    refine WC.ite rfl (fun h6 => ?_) (fun h6 => ?_)
    · refine WC.skip ?_
      refine DN.then_normal ?_
      refine WC.ite rfl (fun h6 => ?_) (fun h6 => ?_)
      · refine WC.seq ?_
        refine WC.region ?_
        refine WL.y rfl (Yd.assign rfl) ?_
        refine WL.nil ?_
        refine DN.then_normal ?_
        refine WC.ret ?_
        refine DN.block_ret ?_
        refine DN.then_ret ?_
        refine DN.ret1 Try.results66 rfl ?_
        first | (exfalso; omega) | exact ⟨by congr 1; simp [nmS, nm, *], rfl⟩
      · refine WC.seq ?_
        refine WC.seq ?_
        refine WC.region ?_
        refine WL.y rfl (Yd.eql rfl rfl) ?_
        refine WL.y rfl (Yd.assign rfl) ?_
        refine WL.nil ?_
        refine DN.then_normal ?_
        refine WC.ite rfl (fun h9 => ?_) (fun h9 => ?_)
        · refine WC.skip ?_
          refine DN.then_normal ?_
          refine WC.ite rfl (fun h9 => ?_) (fun h9 => ?_)
          · refine WC.seq ?_
            refine WC.region ?_
            refine WL.y rfl (Yd.assign rfl) ?_
            refine WL.nil ?_
            refine DN.then_normal ?_
            refine WC.ret ?_
            refine DN.block_ret ?_
            refine DN.then_ret ?_
            refine DN.ret1 Try.results66 rfl ?_
            first | (exfalso; omega) | exact ⟨by congr 1; simp [nmS, nm, *], rfl⟩
          · refine WC.seq ?_
            refine WC.region ?_
            refine WL.y rfl (Yd.eql rfl rfl) ?_
            refine WL.y rfl (Yd.assign rfl) ?_
            refine WL.nil ?_
            refine DN.then_normal ?_
            refine WC.ite rfl (fun h12 => ?_) (fun h12 => ?_)
            · refine WC.seq ?_
              refine WC.region ?_
              refine WL.y rfl (Yd.assign rfl) ?_
              refine WL.nil ?_
              refine DN.then_normal ?_
              refine WC.ret ?_
              refine DN.block_ret ?_
              refine DN.then_ret ?_
              refine DN.ret1 Try.results66 rfl ?_
              first | (exfalso; omega) | exact ⟨by congr 1; simp [nmS, nm, *], rfl⟩
            · refine WC.seq ?_
              refine WC.region ?_
              refine WL.y rfl (Yd.eql rfl rfl) ?_
              refine WL.y rfl (Yd.assign rfl) ?_
              refine WL.nil ?_
              refine DN.then_normal ?_
              refine WC.ite rfl (fun h14 => ?_) (fun h14 => ?_)
              · refine WC.seq ?_
                refine WC.region ?_
                refine WL.y rfl (Yd.assign rfl) ?_
                refine WL.nil ?_
                refine DN.then_normal ?_
                refine WC.ret ?_
                refine DN.block_ret ?_
                refine DN.then_ret ?_
                refine DN.ret1 Try.results66 rfl ?_
                first | (exfalso; omega) | exact ⟨by congr 1; simp [nmS, nm, *], rfl⟩
              · refine WC.seq ?_
                refine WC.region ?_
                refine WL.y rfl (Yd.eql rfl rfl) ?_
                refine WL.y rfl (Yd.assign rfl) ?_
                refine WL.nil ?_
                refine DN.then_normal ?_
                refine WC.ite rfl (fun h16 => ?_) (fun h16 => ?_)
                · refine WC.seq ?_
                  refine WC.region ?_
                  refine WL.y rfl (Yd.assign rfl) ?_
                  refine WL.nil ?_
                  refine DN.then_normal ?_
                  refine WC.ret ?_
                  refine DN.block_ret ?_
                  refine DN.then_ret ?_
                  refine DN.ret1 Try.results66 rfl ?_
                  first | (exfalso; omega) | exact ⟨by congr 1; simp [nmS, nm, *], rfl⟩
                · refine WC.seq ?_
                  refine WC.region ?_
                  refine WL.y rfl (Yd.eql rfl rfl) ?_
                  refine WL.y rfl (Yd.assign rfl) ?_
                  refine WL.nil ?_
                  refine DN.then_normal ?_
                  refine WC.ite rfl (fun h18 => ?_) (fun h18 => ?_)
                  · refine WC.seq ?_
                    refine WC.region ?_
                    refine WL.y rfl (Yd.assign rfl) ?_
                    refine WL.nil ?_
                    refine DN.then_normal ?_
                    refine WC.ret ?_
                    refine DN.block_ret ?_
                    refine DN.then_ret ?_
                    refine DN.ret1 Try.results66 rfl ?_
                    first | (exfalso; omega) | exact ⟨by congr 1; simp [nmS, nm, *], rfl⟩
                  · refine WC.seq ?_
                    refine WC.region ?_
                    refine WL.y rfl (Yd.eql rfl rfl) ?_
                    refine WL.y rfl (Yd.assign rfl) ?_
                    refine WL.nil ?_
                    refine DN.then_normal ?_
                    refine WC.ite rfl (fun h20 => ?_) (fun h20 => ?_)
                    · refine WC.seq ?_
                      refine WC.region ?_
                      refine WL.y rfl (Yd.assign rfl) ?_
                      refine WL.nil ?_
                      refine DN.then_normal ?_
                      refine WC.ret ?_
                      refine DN.block_ret ?_
                      refine DN.then_ret ?_
                      refine DN.ret1 Try.results66 rfl ?_
                      first | (exfalso; omega) | exact ⟨by congr 1; simp [nmS, nm, *], rfl⟩
                    · refine WC.seq ?_
                      refine WC.seq ?_
                      refine WC.region ?_
                      refine WL.y rfl (Yd.eql rfl rfl) ?_
                      refine WL.y rfl (Yd.assign rfl) ?_
                      refine WL.nil ?_
                      refine DN.then_normal ?_
                      refine WC.ite rfl (fun h22 => ?_) (fun h22 => ?_)
                      · refine WC.skip ?_
                        refine DN.then_normal ?_
                        refine WC.ite rfl (fun h22 => ?_) (fun h22 => ?_)
                        · refine WC.seq ?_
                          refine WC.region ?_
                          refine WL.y rfl (Yd.assign rfl) ?_
                          refine WL.nil ?_
                          refine DN.then_normal ?_
                          refine WC.ret ?_
                          refine DN.block_ret ?_
                          refine DN.then_ret ?_
                          refine DN.ret1 Try.results66 rfl ?_
                          first | (exfalso; omega) | exact ⟨by congr 1; simp [nmS, nm, *], rfl⟩
                        · refine WC.seq ?_
                          refine WC.region ?_
                          refine WL.y rfl (Yd.eql rfl rfl) ?_
                          refine WL.y rfl (Yd.assign rfl) ?_
                          refine WL.nil ?_
                          refine DN.then_normal ?_
                          refine WC.ite rfl (fun h25 => ?_) (fun h25 => ?_)
                          · refine WC.seq ?_
                            refine WC.region ?_
                            refine WL.y rfl (Yd.assign rfl) ?_
                            refine WL.nil ?_
                            refine DN.then_normal ?_
                            refine WC.ret ?_
                            refine DN.block_ret ?_
                            refine DN.then_ret ?_
                            refine DN.ret1 Try.results66 rfl ?_
                            first | (exfalso; omega) | exact ⟨by congr 1; simp [nmS, nm, *], rfl⟩
                          · refine WC.skip ?_
                            refine DN.block_normal ?_
                            refine DN.then_normal ?_
                            refine WC.seq ?_
                            refine WC.region ?_
                            refine WL.y rfl (Yd.assign rfl) ?_
                            refine WL.nil ?_
                            refine DN.then_normal ?_
                            refine WC.ret ?_
                            refine DN.ret1 Try.results66 rfl ?_
                            first | (exfalso; omega) | exact ⟨by congr 1; simp [nmS, nm, *], rfl⟩
                      · refine WC.region ?_
                        refine WL.y rfl (Yd.eql rfl rfl) ?_
                        refine WL.y rfl (Yd.assign rfl) ?_
                        refine WL.nil ?_
                        refine DN.then_normal ?_
                        refine WC.ite rfl (fun h22 => ?_) (fun h22 => ?_)
                        · refine WC.seq ?_
                          refine WC.region ?_
                          refine WL.y rfl (Yd.assign rfl) ?_
                          refine WL.nil ?_
                          refine DN.then_normal ?_
                          refine WC.ret ?_
                          refine DN.block_ret ?_
                          refine DN.then_ret ?_
                          refine DN.ret1 Try.results66 rfl ?_
                          first | (exfalso; omega) | exact ⟨by congr 1; simp [nmS, nm, *], rfl⟩
                        · refine WC.seq ?_
                          refine WC.region ?_
                          refine WL.y rfl (Yd.eql rfl rfl) ?_
                          refine WL.y rfl (Yd.assign rfl) ?_
                          refine WL.nil ?_
                          refine DN.then_normal ?_
                          refine WC.ite rfl (fun h25 => ?_) (fun h25 => ?_)
                          · refine WC.seq ?_
                            refine WC.region ?_
                            refine WL.y rfl (Yd.assign rfl) ?_
                            refine WL.nil ?_
                            refine DN.then_normal ?_
                            refine WC.ret ?_
                            refine DN.block_ret ?_
                            refine DN.then_ret ?_
                            refine DN.ret1 Try.results66 rfl ?_
                            first | (exfalso; omega) | exact ⟨by congr 1; simp [nmS, nm, *], rfl⟩
                          · refine WC.skip ?_
                            refine DN.block_normal ?_
                            refine DN.then_normal ?_
                            refine WC.seq ?_
                            refine WC.region ?_
                            refine WL.y rfl (Yd.assign rfl) ?_
                            refine WL.nil ?_
                            refine DN.then_normal ?_
                            refine WC.ret ?_
                            refine DN.ret1 Try.results66 rfl ?_
                            first | (exfalso; omega) | exact ⟨by congr 1; simp [nmS, nm, *], rfl⟩
        · refine WC.region ?_
          refine WL.y rfl (Yd.eql rfl rfl) ?_
          refine WL.y rfl (Yd.assign rfl) ?_
          refine WL.nil ?_
          refine DN.then_normal ?_
          refine WC.ite rfl (fun h9 => ?_) (fun h9 => ?_)
          · refine WC.seq ?_
            refine WC.region ?_
            refine WL.y rfl (Yd.assign rfl) ?_
            refine WL.nil ?_
            refine DN.then_normal ?_
            refine WC.ret ?_
            refine DN.block_ret ?_
            refine DN.then_ret ?_
            refine DN.ret1 Try.results66 rfl ?_
            first | (exfalso; omega) | exact ⟨by congr 1; simp [nmS, nm, *], rfl⟩
          · refine WC.seq ?_
            refine WC.region ?_
            refine WL.y rfl (Yd.eql rfl rfl) ?_
            refine WL.y rfl (Yd.assign rfl) ?_
            refine WL.nil ?_
            refine DN.then_normal ?_
            refine WC.ite rfl (fun h12 => ?_) (fun h12 => ?_)
            · refine WC.seq ?_
              refine WC.region ?_
              refine WL.y rfl (Yd.assign rfl) ?_
              refine WL.nil ?_
              refine DN.then_normal ?_
              refine WC.ret ?_
              refine DN.block_ret ?_
              refine DN.then_ret ?_
              refine DN.ret1 Try.results66 rfl ?_
              first | (exfalso; omega) | exact ⟨by congr 1; simp [nmS, nm, *], rfl⟩
            · refine WC.seq ?_
              refine WC.region ?_
              refine WL.y rfl (Yd.eql rfl rfl) ?_
              refine WL.y rfl (Yd.assign rfl) ?_
              refine WL.nil ?_
              refine DN.then_normal ?_
              refine WC.ite rfl (fun h14 => ?_) (fun h14 => ?_)
              · refine WC.seq ?_
                refine WC.region ?_
                refine WL.y rfl (Yd.assign rfl) ?_
                refine WL.nil ?_
                refine DN.then_normal ?_
                refine WC.ret ?_
                refine DN.block_ret ?_
                refine DN.then_ret ?_
                refine DN.ret1 Try.results66 rfl ?_
                first | (exfalso; omega) | exact ⟨by congr 1; simp [nmS, nm, *], rfl⟩
              · refine WC.seq ?_
                refine WC.region ?_
                refine WL.y rfl (Yd.eql rfl rfl) ?_
                refine WL.y rfl (Yd.assign rfl) ?_
                refine WL.nil ?_
                refine DN.then_normal ?_
                refine WC.ite rfl (fun h16 => ?_) (fun h16 => ?_)
                · refine WC.seq ?_
                  refine WC.region ?_
                  refine WL.y rfl (Yd.assign rfl) ?_
                  refine WL.nil ?_
                  refine DN.then_normal ?_
                  refine WC.ret ?_
                  refine DN.block_ret ?_
                  refine DN.then_ret ?_
                  refine DN.ret1 Try.results66 rfl ?_
                  first | (exfalso; omega) | exact ⟨by congr 1; simp [nmS, nm, *], rfl⟩
                · refine WC.seq ?_
                  refine WC.region ?_
                  refine WL.y rfl (Yd.eql rfl rfl) ?_
                  refine WL.y rfl (Yd.assign rfl) ?_
                  refine WL.nil ?_
                  refine DN.then_normal ?_
                  refine WC.ite rfl (fun h18 => ?_) (fun h18 => ?_)
                  · refine WC.seq ?_
                    refine WC.region ?_
                    refine WL.y rfl (Yd.assign rfl) ?_
                    refine WL.nil ?_
                    refine DN.then_normal ?_
                    refine WC.ret ?_
                    refine DN.block_ret ?_
                    refine DN.then_ret ?_
                    refine DN.ret1 Try.results66 rfl ?_
                    first | (exfalso; omega) | exact ⟨by congr 1; simp [nmS, nm, *], rfl⟩
                  · refine WC.seq ?_
                    refine WC.region ?_
                    refine WL.y rfl (Yd.eql rfl rfl) ?_
                    refine WL.y rfl (Yd.assign rfl) ?_
                    refine WL.nil ?_
                    refine DN.then_normal ?_
                    refine WC.ite rfl (fun h20 => ?_) (fun h20 => ?_)
                    · refine WC.seq ?_
                      refine WC.region ?_
                      refine WL.y rfl (Yd.assign rfl) ?_
                      refine WL.nil ?_
                      refine DN.then_normal ?_
                      refine WC.ret ?_
                      refine DN.block_ret ?_
                      refine DN.then_ret ?_
                      refine DN.ret1 Try.results66 rfl ?_
                      first | (exfalso; omega) | exact ⟨by congr 1; simp [nmS, nm, *], rfl⟩
                    · refine WC.seq ?_
                      refine WC.seq ?_
                      refine WC.region ?_
                      refine WL.y rfl (Yd.eql rfl rfl) ?_
                      refine WL.y rfl (Yd.assign rfl) ?_
                      refine WL.nil ?_
                      refine DN.then_normal ?_
                      refine WC.ite rfl (fun h22 => ?_) (fun h22 => ?_)
                      · refine WC.skip ?_
                        refine DN.then_normal ?_
                        refine WC.ite rfl (fun h22 => ?_) (fun h22 => ?_)
                        · refine WC.seq ?_
                          refine WC.region ?_
                          refine WL.y rfl (Yd.assign rfl) ?_
                          refine WL.nil ?_
                          refine DN.then_normal ?_
                          refine WC.ret ?_
                          refine DN.block_ret ?_
                          refine DN.then_ret ?_
                          refine DN.ret1 Try.results66 rfl ?_
                          first | (exfalso; omega) | exact ⟨by congr 1; simp [nmS, nm, *], rfl⟩
                        · refine WC.seq ?_
                          refine WC.region ?_
                          refine WL.y rfl (Yd.eql rfl rfl) ?_
                          refine WL.y rfl (Yd.assign rfl) ?_
                          refine WL.nil ?_
                          refine DN.then_normal ?_
                          refine WC.ite rfl (fun h25 => ?_) (fun h25 => ?_)
                          · refine WC.seq ?_
                            refine WC.region ?_
                            refine WL.y rfl (Yd.assign rfl) ?_
                            refine WL.nil ?_
                            refine DN.then_normal ?_
                            refine WC.ret ?_
                            refine DN.block_ret ?_
                            refine DN.then_ret ?_
                            refine DN.ret1 Try.results66 rfl ?_
                            first | (exfalso; omega) | exact ⟨by congr 1; simp [nmS, nm, *], rfl⟩
                          · refine WC.skip ?_
                            refine DN.block_normal ?_
                            refine DN.then_normal ?_
                            refine WC.seq ?_
                            refine WC.region ?_
                            refine WL.y rfl (Yd.assign rfl) ?_
                            refine WL.nil ?_
                            refine DN.then_normal ?_
                            refine WC.ret ?_
                            refine DN.ret1 Try.results66 rfl ?_
                            first | (exfalso; omega) | exact ⟨by congr 1; simp [nmS, nm, *], rfl⟩
                      · refine WC.region ?_
                        refine WL.y rfl (Yd.eql rfl rfl) ?_
                        refine WL.y rfl (Yd.assign rfl) ?_
                        refine WL.nil ?_
                        refine DN.then_normal ?_
                        refine WC.ite rfl (fun h22 => ?_) (fun h22 => ?_)
                        · refine WC.seq ?_
                          refine WC.region ?_
                          refine WL.y rfl (Yd.assign rfl) ?_
                          refine WL.nil ?_
                          refine DN.then_normal ?_
                          refine WC.ret ?_
                          refine DN.block_ret ?_
                          refine DN.then_ret ?_
                          refine DN.ret1 Try.results66 rfl ?_
                          first | (exfalso; omega) | exact ⟨by congr 1; simp [nmS, nm, *], rfl⟩
                        · refine WC.seq ?_
                          refine WC.region ?_
                          refine WL.y rfl (Yd.eql rfl rfl) ?_
                          refine WL.y rfl (Yd.assign rfl) ?_
                          refine WL.nil ?_
                          refine DN.then_normal ?_
                          refine WC.ite rfl (fun h25 => ?_) (fun h25 => ?_)
                          · refine WC.seq ?_
                            refine WC.region ?_
                            refine WL.y rfl (Yd.assign rfl) ?_
                            refine WL.nil ?_
                            refine DN.then_normal ?_
                            refine WC.ret ?_
                            refine DN.block_ret ?_
                            refine DN.then_ret ?_
                            refine DN.ret1 Try.results66 rfl ?_
                            first | (exfalso; omega) | exact ⟨by congr 1; simp [nmS, nm, *], rfl⟩
                          · refine WC.skip ?_
                            refine DN.block_normal ?_
                            refine DN.then_normal ?_
                            refine WC.seq ?_
                            refine WC.region ?_
                            refine WL.y rfl (Yd.assign rfl) ?_
                            refine WL.nil ?_
                            refine DN.then_normal ?_
                            refine WC.ret ?_
                            refine DN.ret1 Try.results66 rfl ?_
                            first | (exfalso; omega) | exact ⟨by congr 1; simp [nmS, nm, *], rfl⟩
    · refine WC.region ?_
      refine WL.y rfl (Yd.eql rfl rfl) ?_
      refine WL.y rfl (Yd.assign rfl) ?_
      refine WL.nil ?_
      refine DN.then_normal ?_
      refine WC.ite rfl (fun h6 => ?_) (fun h6 => ?_)
      · refine WC.seq ?_
        refine WC.region ?_
        refine WL.y rfl (Yd.assign rfl) ?_
        refine WL.nil ?_
        refine DN.then_normal ?_
        refine WC.ret ?_
        refine DN.block_ret ?_
        refine DN.then_ret ?_
        refine DN.ret1 Try.results66 rfl ?_
        first | (exfalso; omega) | exact ⟨by congr 1; simp [nmS, nm, *], rfl⟩
      · refine WC.seq ?_
        refine WC.seq ?_
        refine WC.region ?_
        refine WL.y rfl (Yd.eql rfl rfl) ?_
        refine WL.y rfl (Yd.assign rfl) ?_
        refine WL.nil ?_
        refine DN.then_normal ?_
        refine WC.ite rfl (fun h9 => ?_) (fun h9 => ?_)
        · refine WC.skip ?_
          refine DN.then_normal ?_
          refine WC.ite rfl (fun h9 => ?_) (fun h9 => ?_)
          · refine WC.seq ?_
            refine WC.region ?_
            refine WL.y rfl (Yd.assign rfl) ?_
            refine WL.nil ?_
            refine DN.then_normal ?_
            refine WC.ret ?_
            refine DN.block_ret ?_
            refine DN.then_ret ?_
            refine DN.ret1 Try.results66 rfl ?_
            first | (exfalso; omega) | exact ⟨by congr 1; simp [nmS, nm, *], rfl⟩
          · refine WC.seq ?_
            refine WC.region ?_
            refine WL.y rfl (Yd.eql rfl rfl) ?_
            refine WL.y rfl (Yd.assign rfl) ?_
            refine WL.nil ?_
            refine DN.then_normal ?_
            refine WC.ite rfl (fun h12 => ?_) (fun h12 => ?_)
            · refine WC.seq ?_
              refine WC.region ?_
              refine WL.y rfl (Yd.assign rfl) ?_
              refine WL.nil ?_
              refine DN.then_normal ?_
              refine WC.ret ?_
              refine DN.block_ret ?_
              refine DN.then_ret ?_
              refine DN.ret1 Try.results66 rfl ?_
              first | (exfalso; omega) | exact ⟨by congr 1; simp [nmS, nm, *], rfl⟩
            · refine WC.seq ?_
              refine WC.region ?_
              refine WL.y rfl (Yd.eql rfl rfl) ?_
              refine WL.y rfl (Yd.assign rfl) ?_
              refine WL.nil ?_
              refine DN.then_normal ?_
              refine WC.ite rfl (fun h14 => ?_) (fun h14 => ?_)
              · refine WC.seq ?_
                refine WC.region ?_
                refine WL.y rfl (Yd.assign rfl) ?_
                refine WL.nil ?_
                refine DN.then_normal ?_
                refine WC.ret ?_
                refine DN.block_ret ?_
                refine DN.then_ret ?_
                refine DN.ret1 Try.results66 rfl ?_
                first | (exfalso; omega) | exact ⟨by congr 1; simp [nmS, nm, *], rfl⟩
              · refine WC.seq ?_
                refine WC.region ?_
                refine WL.y rfl (Yd.eql rfl rfl) ?_
                refine WL.y rfl (Yd.assign rfl) ?_
                refine WL.nil ?_
                refine DN.then_normal ?_
                refine WC.ite rfl (fun h16 => ?_) (fun h16 => ?_)
                · refine WC.seq ?_
                  refine WC.region ?_
                  refine WL.y rfl (Yd.assign rfl) ?_
                  refine WL.nil ?_
                  refine DN.then_normal ?_
                  refine WC.ret ?_
                  refine DN.block_ret ?_
                  refine DN.then_ret ?_
                  refine DN.ret1 Try.results66 rfl ?_
                  first | (exfalso; omega) | exact ⟨by congr 1; simp [nmS, nm, *], rfl⟩
                · refine WC.seq ?_
                  refine WC.region ?_
                  refine WL.y rfl (Yd.eql rfl rfl) ?_
                  refine WL.y rfl (Yd.assign rfl) ?_
                  refine WL.nil ?_
                  refine DN.then_normal ?_
                  refine WC.ite rfl (fun h18 => ?_) (fun h18 => ?_)
                  · refine WC.seq ?_
                    refine WC.region ?_
                    refine WL.y rfl (Yd.assign rfl) ?_
                    refine WL.nil ?_
                    refine DN.then_normal ?_
                    refine WC.ret ?_
                    refine DN.block_ret ?_
                    refine DN.then_ret ?_
                    refine DN.ret1 Try.results66 rfl ?_
                    first | (exfalso; omega) | exact ⟨by congr 1; simp [nmS, nm, *], rfl⟩
                  · refine WC.seq ?_
                    refine WC.region ?_
                    refine WL.y rfl (Yd.eql rfl rfl) ?_
                    refine WL.y rfl (Yd.assign rfl) ?_
                    refine WL.nil ?_
                    refine DN.then_normal ?_
                    refine WC.ite rfl (fun h20 => ?_) (fun h20 => ?_)
                    · refine WC.seq ?_
                      refine WC.region ?_
                      refine WL.y rfl (Yd.assign rfl) ?_
                      refine WL.nil ?_
                      refine DN.then_normal ?_
                      refine WC.ret ?_
                      refine DN.block_ret ?_
                      refine DN.then_ret ?_
                      refine DN.ret1 Try.results66 rfl ?_
                      first | (exfalso; omega) | exact ⟨by congr 1; simp [nmS, nm, *], rfl⟩
                    · refine WC.seq ?_
                      refine WC.seq ?_
                      refine WC.region ?_
                      refine WL.y rfl (Yd.eql rfl rfl) ?_
                      refine WL.y rfl (Yd.assign rfl) ?_
                      refine WL.nil ?_
                      refine DN.then_normal ?_
                      refine WC.ite rfl (fun h22 => ?_) (fun h22 => ?_)
                      · refine WC.skip ?_
                        refine DN.then_normal ?_
                        refine WC.ite rfl (fun h22 => ?_) (fun h22 => ?_)
                        · refine WC.seq ?_
                          refine WC.region ?_
                          refine WL.y rfl (Yd.assign rfl) ?_
                          refine WL.nil ?_
                          refine DN.then_normal ?_
                          refine WC.ret ?_
                          refine DN.block_ret ?_
                          refine DN.then_ret ?_
                          refine DN.ret1 Try.results66 rfl ?_
                          first | (exfalso; omega) | exact ⟨by congr 1; simp [nmS, nm, *], rfl⟩
                        · refine WC.seq ?_
                          refine WC.region ?_
                          refine WL.y rfl (Yd.eql rfl rfl) ?_
                          refine WL.y rfl (Yd.assign rfl) ?_
                          refine WL.nil ?_
                          refine DN.then_normal ?_
                          refine WC.ite rfl (fun h25 => ?_) (fun h25 => ?_)
                          · refine WC.seq ?_
                            refine WC.region ?_
                            refine WL.y rfl (Yd.assign rfl) ?_
                            refine WL.nil ?_
                            refine DN.then_normal ?_
                            refine WC.ret ?_
                            refine DN.block_ret ?_
                            refine DN.then_ret ?_
                            refine DN.ret1 Try.results66 rfl ?_
                            first | (exfalso; omega) | exact ⟨by congr 1; simp [nmS, nm, *], rfl⟩
                          · refine WC.skip ?_
                            refine DN.block_normal ?_
                            refine DN.then_normal ?_
                            refine WC.seq ?_
                            refine WC.region ?_
                            refine WL.y rfl (Yd.assign rfl) ?_
                            refine WL.nil ?_
                            refine DN.then_normal ?_
                            refine WC.ret ?_
                            refine DN.ret1 Try.results66 rfl ?_
                            first | (exfalso; omega) | exact ⟨by congr 1; simp [nmS, nm, *], rfl⟩
                      · refine WC.region ?_
                        refine WL.y rfl (Yd.eql rfl rfl) ?_
                        refine WL.y rfl (Yd.assign rfl) ?_
                        refine WL.nil ?_
                        refine DN.then_normal ?_
                        refine WC.ite rfl (fun h22 => ?_) (fun h22 => ?_)
                        · refine WC.seq ?_
                          refine WC.region ?_
                          refine WL.y rfl (Yd.assign rfl) ?_
                          refine WL.nil ?_
                          refine DN.then_normal ?_
                          refine WC.ret ?_
                          refine DN.block_ret ?_
                          refine DN.then_ret ?_
                          refine DN.ret1 Try.results66 rfl ?_
                          first | (exfalso; omega) | exact ⟨by congr 1; simp [nmS, nm, *], rfl⟩
                        · refine WC.seq ?_
                          refine WC.region ?_
                          refine WL.y rfl (Yd.eql rfl rfl) ?_
                          refine WL.y rfl (Yd.assign rfl) ?_
                          refine WL.nil ?_
                          refine DN.then_normal ?_
                          refine WC.ite rfl (fun h25 => ?_) (fun h25 => ?_)
                          · refine WC.seq ?_
                            refine WC.region ?_
                            refine WL.y rfl (Yd.assign rfl) ?_
                            refine WL.nil ?_
                            refine DN.then_normal ?_
                            refine WC.ret ?_
                            refine DN.block_ret ?_
                            refine DN.then_ret ?_
                            refine DN.ret1 Try.results66 rfl ?_
                            first | (exfalso; omega) | exact ⟨by congr 1; simp [nmS, nm, *], rfl⟩
                          · refine WC.skip ?_
                            refine DN.block_normal ?_
                            refine DN.then_normal ?_
                            refine WC.seq ?_
                            refine WC.region ?_
                            refine WL.y rfl (Yd.assign rfl) ?_
                            refine WL.nil ?_
                            refine DN.then_normal ?_
                            refine WC.ret ?_
                            refine DN.ret1 Try.results66 rfl ?_
                            first | (exfalso; omega) | exact ⟨by congr 1; simp [nmS, nm, *], rfl⟩
        · refine WC.region ?_
          refine WL.y rfl (Yd.eql rfl rfl) ?_
          refine WL.y rfl (Yd.assign rfl) ?_
          refine WL.nil ?_
          refine DN.then_normal ?_
          refine WC.ite rfl (fun h9 => ?_) (fun h9 => ?_)
          · refine WC.seq ?_
            refine WC.region ?_
            refine WL.y rfl (Yd.assign rfl) ?_
            refine WL.nil ?_
            refine DN.then_normal ?_
            refine WC.ret ?_
            refine DN.block_ret ?_
            refine DN.then_ret ?_
            refine DN.ret1 Try.results66 rfl ?_
            first | (exfalso; omega) | exact ⟨by congr 1; simp [nmS, nm, *], rfl⟩
          · refine WC.seq ?_
            refine WC.region ?_
            refine WL.y rfl (Yd.eql rfl rfl) ?_
            refine WL.y rfl (Yd.assign rfl) ?_
            refine WL.nil ?_
            refine DN.then_normal ?_
            refine WC.ite rfl (fun h12 => ?_) (fun h12 => ?_)
            · refine WC.seq ?_
              refine WC.region ?_
              refine WL.y rfl (Yd.assign rfl) ?_
              refine WL.nil ?_
              refine DN.then_normal ?_
              refine WC.ret ?_
              refine DN.block_ret ?_
              refine DN.then_ret ?_
              refine DN.ret1 Try.results66 rfl ?_
              first | (exfalso; omega) | exact ⟨by congr 1; simp [nmS, nm, *], rfl⟩
            · refine WC.seq ?_
              refine WC.region ?_
              refine WL.y rfl (Yd.eql rfl rfl) ?_
              refine WL.y rfl (Yd.assign rfl) ?_
              refine WL.nil ?_
              refine DN.then_normal ?_
              refine WC.ite rfl (fun h14 => ?_) (fun h14 => ?_)
              · refine WC.seq ?_
                refine WC.region ?_
                refine WL.y rfl (Yd.assign rfl) ?_
                refine WL.nil ?_
                refine DN.then_normal ?_
                refine WC.ret ?_
                refine DN.block_ret ?_
                refine DN.then_ret ?_
                refine DN.ret1 Try.results66 rfl ?_
                first | (exfalso; omega) | exact ⟨by congr 1; simp [nmS, nm, *], rfl⟩
              · refine WC.seq ?_
                refine WC.region ?_
                refine WL.y rfl (Yd.eql rfl rfl) ?_
                refine WL.y rfl (Yd.assign rfl) ?_
                refine WL.nil ?_
                refine DN.then_normal ?_
                refine WC.ite rfl (fun h16 => ?_) (fun h16 => ?_)
                · refine WC.seq ?_
                  refine WC.region ?_
                  refine WL.y rfl (Yd.assign rfl) ?_
                  refine WL.nil ?_
                  refine DN.then_normal ?_
                  refine WC.ret ?_
                  refine DN.block_ret ?_
                  refine DN.then_ret ?_
                  refine DN.ret1 Try.results66 rfl ?_
                  first | (exfalso; omega) | exact ⟨by congr 1; simp [nmS, nm, *], rfl⟩
                · refine WC.seq ?_
                  refine WC.region ?_
                  refine WL.y rfl (Yd.eql rfl rfl) ?_
                  refine WL.y rfl (Yd.assign rfl) ?_
                  refine WL.nil ?_
                  refine DN.then_normal ?_
                  refine WC.ite rfl (fun h18 => ?_) (fun h18 => ?_)
                  · refine WC.seq ?_
                    refine WC.region ?_
                    refine WL.y rfl (Yd.assign rfl) ?_
                    refine WL.nil ?_
                    refine DN.then_normal ?_
                    refine WC.ret ?_
                    refine DN.block_ret ?_
                    refine DN.then_ret ?_
                    refine DN.ret1 Try.results66 rfl ?_
                    first | (exfalso; omega) | exact ⟨by congr 1; simp [nmS, nm, *], rfl⟩
                  · refine WC.seq ?_
                    refine WC.region ?_
                    refine WL.y rfl (Yd.eql rfl rfl) ?_
                    refine WL.y rfl (Yd.assign rfl) ?_
                    refine WL.nil ?_
                    refine DN.then_normal ?_
                    refine WC.ite rfl (fun h20 => ?_) (fun h20 => ?_)
                    · refine WC.seq ?_
                      refine WC.region ?_
                      refine WL.y rfl (Yd.assign rfl) ?_
                      refine WL.nil ?_
                      refine DN.then_normal ?_
                      refine WC.ret ?_
                      refine DN.block_ret ?_
                      refine DN.then_ret ?_
                      refine DN.ret1 Try.results66 rfl ?_
                      first | (exfalso; omega) | exact ⟨by congr 1; simp [nmS, nm, *], rfl⟩
                    · refine WC.seq ?_
                      refine WC.seq ?_
                      refine WC.region ?_
                      refine WL.y rfl (Yd.eql rfl rfl) ?_
                      refine WL.y rfl (Yd.assign rfl) ?_
                      refine WL.nil ?_
                      refine DN.then_normal ?_
                      refine WC.ite rfl (fun h22 => ?_) (fun h22 => ?_)
                      · refine WC.skip ?_
                        refine DN.then_normal ?_
                        refine WC.ite rfl (fun h22 => ?_) (fun h22 => ?_)
                        · refine WC.seq ?_
                          refine WC.region ?_
                          refine WL.y rfl (Yd.assign rfl) ?_
                          refine WL.nil ?_
                          refine DN.then_normal ?_
                          refine WC.ret ?_
                          refine DN.block_ret ?_
                          refine DN.then_ret ?_
                          refine DN.ret1 Try.results66 rfl ?_
                          first | (exfalso; omega) | exact ⟨by congr 1; simp [nmS, nm, *], rfl⟩
                        · refine WC.seq ?_
                          refine WC.region ?_
                          refine WL.y rfl (Yd.eql rfl rfl) ?_
                          refine WL.y rfl (Yd.assign rfl) ?_
                          refine WL.nil ?_
                          refine DN.then_normal ?_
                          refine WC.ite rfl (fun h25 => ?_) (fun h25 => ?_)
                          · refine WC.seq ?_
                            refine WC.region ?_
                            refine WL.y rfl (Yd.assign rfl) ?_
                            refine WL.nil ?_
                            refine DN.then_normal ?_
                            refine WC.ret ?_
                            refine DN.block_ret ?_
                            refine DN.then_ret ?_
                            refine DN.ret1 Try.results66 rfl ?_
                            first | (exfalso; omega) | exact ⟨by congr 1; simp [nmS, nm, *], rfl⟩
                          · refine WC.skip ?_
                            refine DN.block_normal ?_
                            refine DN.then_normal ?_
                            refine WC.seq ?_
                            refine WC.region ?_
                            refine WL.y rfl (Yd.assign rfl) ?_
                            refine WL.nil ?_
                            refine DN.then_normal ?_
                            refine WC.ret ?_
                            refine DN.ret1 Try.results66 rfl ?_
                            first | (exfalso; omega) | exact ⟨by congr 1; simp [nmS, nm, *], rfl⟩
                      · refine WC.region ?_
                        refine WL.y rfl (Yd.eql rfl rfl) ?_
                        refine WL.y rfl (Yd.assign rfl) ?_
                        refine WL.nil ?_
                        refine DN.then_normal ?_
                        refine WC.ite rfl (fun h22 => ?_) (fun h22 => ?_)
                        · refine WC.seq ?_
                          refine WC.region ?_
                          refine WL.y rfl (Yd.assign rfl) ?_
                          refine WL.nil ?_
                          refine DN.then_normal ?_
                          refine WC.ret ?_
                          refine DN.block_ret ?_
                          refine DN.then_ret ?_
                          refine DN.ret1 Try.results66 rfl ?_
                          first | (exfalso; omega) | exact ⟨by congr 1; simp [nmS, nm, *], rfl⟩
                        · refine WC.seq ?_
                          refine WC.region ?_
                          refine WL.y rfl (Yd.eql rfl rfl) ?_
                          refine WL.y rfl (Yd.assign rfl) ?_
                          refine WL.nil ?_
                          refine DN.then_normal ?_
                          refine WC.ite rfl (fun h25 => ?_) (fun h25 => ?_)
                          · refine WC.seq ?_
                            refine WC.region ?_
                            refine WL.y rfl (Yd.assign rfl) ?_
                            refine WL.nil ?_
                            refine DN.then_normal ?_
                            refine WC.ret ?_
                            refine DN.block_ret ?_
                            refine DN.then_ret ?_
                            refine DN.ret1 Try.results66 rfl ?_
                            first | (exfalso; omega) | exact ⟨by congr 1; simp [nmS, nm, *], rfl⟩
                          · refine WC.skip ?_
                            refine DN.block_normal ?_
                            refine DN.then_normal ?_
                            refine WC.seq ?_
                            refine WC.region ?_
                            refine WL.y rfl (Yd.assign rfl) ?_
                            refine WL.nil ?_
                            refine DN.then_normal ?_
                            refine WC.ret ?_
                            refine DN.ret1 Try.results66 rfl ?_
                            first | (exfalso; omega) | exact ⟨by congr 1; simp [nmS, nm, *], rfl⟩

/-- drayage/note.without -/
theorem without_reads (n : Nt) (vk vd : Value) (c : Int) (h1 : vk.oneCell' = true) (h2 : vd.oneCell' = true) (H : List Ck) : Reads Try.prog 67 [.agg (ntc n vk vd).toArray, .int .i32 c] H (.agg (ntc (wo n c) (woK vk c) (woD vd c)).toArray) := by
  refine Tells.enter Try.func67 rfl Try.ntmps67 rfl ?_
  intro w0 R
  refine WC.seq ?_
  refine WC.region ?_
  refine WL.h rfl (Hd.boxA rfl fun b2 => ⟨_, rfl, ?_⟩)
  refine WL.h rfl (Hd.alloc (zs := [.int .i64 0, .int .u32 0, .int .u32 0, .int .u64 0, .int .u64 0, .int .u32 0, .int .i64 0, .bool false, .int .i64 0, .slice none 0 0, .slice none 0 0]) (by kernel_rfl) fun b4 => ⟨_, rfl, ?_⟩)
  refine WL.nil ?_
  refine DN.then_normal ?_
  refine WC.seq ?_
  refine WC.seq ?_
  refine WC.region ?_
  refine WL.y rfl (Yd.move rfl) ?_
  refine WL.nil ?_
  refine DN.then_normal ?_
  refine WC.block ?_
  refine WC.seq ?_
  refine WC.region ?_
  refine WL.y rfl (Yd.eql rfl rfl) ?_
  refine WL.y rfl (Yd.assign rfl) ?_
  refine WL.nil ?_
  refine DN.then_normal ?_
  refine WC.ite rfl (fun h6 => ?_) (fun h6 => ?_)
  · refine WC.region ?_
    refine WL.y rfl (Yd.fieldAddr (k := 1) (by kernel_rfl) rfl) ?_
    refine WL.s (Hd.store1s (by kernel_rfl) rfl rfl (by rfl) (by repeat (first | exact Fr.here | apply Fr.fc | apply Fr.al | apply Fr.fa)) (by rfl) (by first | (simp only [List.set_cons_zero, List.set_cons_succ, Nat.zero_add, Nat.add_zero, Nat.reduceAdd]; rfl) | rfl) ⟨rfl, ?_⟩)
    refine WL.nil ?_
    refine DN.block_normal ?_
    refine DN.then_normal ?_
    refine WC.seq ?_
    refine WC.region ?_
    refine WL.h rfl (Hd.loadAll (n := 11) (by kernel_rfl) rfl (by repeat (first | exact List.mem_cons_self | apply List.mem_cons_of_mem | apply List.mem_append_right)) (by rfl) ⟨_, rfl, ?_⟩)
    refine WL.s (Hd.storeAll (n := 11) (by kernel_rfl) rfl rfl (by rfl) (by repeat (first | exact fun _ h => absurd h List.not_mem_nil | refine List.forall_mem_cons.2 ⟨by first | rfl | assumption, ?_⟩)) (by repeat (first | exact Fr.here | apply Fr.fc | apply Fr.al | apply Fr.fa)) (by rfl) ⟨rfl, ?_⟩)
    refine WL.nil ?_
    refine DN.then_normal ?_
    refine WC.ret ?_
    refine DN.retCF (s := 11) H Try.results67 (by kernel_rfl) rfl List.mem_cons_self (by rfl) ((List.sublist_cons_self _ _).trans (List.sublist_cons_self _ _)) ?_
    exact ⟨by simp [wo, woK, woD, ntc, *], rfl⟩
  · refine WC.seq ?_
    refine WC.region ?_
    refine WL.y rfl (Yd.eql rfl rfl) ?_
    refine WL.y rfl (Yd.assign rfl) ?_
    refine WL.nil ?_
    refine DN.then_normal ?_
    refine WC.ite rfl (fun h9 => ?_) (fun h9 => ?_)
    · refine WC.region ?_
      refine WL.y rfl (Yd.fieldAddr (k := 2) (by kernel_rfl) rfl) ?_
      refine WL.s (Hd.store1s (by kernel_rfl) rfl rfl (by rfl) (by repeat (first | exact Fr.here | apply Fr.fc | apply Fr.al | apply Fr.fa)) (by rfl) (by first | (simp only [List.set_cons_zero, List.set_cons_succ, Nat.zero_add, Nat.add_zero, Nat.reduceAdd]; rfl) | rfl) ⟨rfl, ?_⟩)
      refine WL.nil ?_
      refine DN.block_normal ?_
      refine DN.then_normal ?_
      refine WC.seq ?_
      refine WC.region ?_
      refine WL.h rfl (Hd.loadAll (n := 11) (by kernel_rfl) rfl (by repeat (first | exact List.mem_cons_self | apply List.mem_cons_of_mem | apply List.mem_append_right)) (by rfl) ⟨_, rfl, ?_⟩)
      refine WL.s (Hd.storeAll (n := 11) (by kernel_rfl) rfl rfl (by rfl) (by repeat (first | exact fun _ h => absurd h List.not_mem_nil | refine List.forall_mem_cons.2 ⟨by first | rfl | assumption, ?_⟩)) (by repeat (first | exact Fr.here | apply Fr.fc | apply Fr.al | apply Fr.fa)) (by rfl) ⟨rfl, ?_⟩)
      refine WL.nil ?_
      refine DN.then_normal ?_
      refine WC.ret ?_
      refine DN.retCF (s := 11) H Try.results67 (by kernel_rfl) rfl List.mem_cons_self (by rfl) ((List.sublist_cons_self _ _).trans (List.sublist_cons_self _ _)) ?_
      exact ⟨by simp [wo, woK, woD, ntc, *], rfl⟩
    · refine WC.seq ?_
      refine WC.region ?_
      refine WL.y rfl (Yd.eql rfl rfl) ?_
      refine WL.y rfl (Yd.assign rfl) ?_
      refine WL.nil ?_
      refine DN.then_normal ?_
      refine WC.ite rfl (fun h12 => ?_) (fun h12 => ?_)
      · refine WC.region ?_
        refine WL.y rfl (Yd.fieldAddr (k := 3) (by kernel_rfl) rfl) ?_
        refine WL.s (Hd.store1s (by kernel_rfl) rfl rfl (by rfl) (by repeat (first | exact Fr.here | apply Fr.fc | apply Fr.al | apply Fr.fa)) (by rfl) (by first | (simp only [List.set_cons_zero, List.set_cons_succ, Nat.zero_add, Nat.add_zero, Nat.reduceAdd]; rfl) | rfl) ⟨rfl, ?_⟩)
        refine WL.nil ?_
        refine DN.block_normal ?_
        refine DN.then_normal ?_
        refine WC.seq ?_
        refine WC.region ?_
        refine WL.h rfl (Hd.loadAll (n := 11) (by kernel_rfl) rfl (by repeat (first | exact List.mem_cons_self | apply List.mem_cons_of_mem | apply List.mem_append_right)) (by rfl) ⟨_, rfl, ?_⟩)
        refine WL.s (Hd.storeAll (n := 11) (by kernel_rfl) rfl rfl (by rfl) (by repeat (first | exact fun _ h => absurd h List.not_mem_nil | refine List.forall_mem_cons.2 ⟨by first | rfl | assumption, ?_⟩)) (by repeat (first | exact Fr.here | apply Fr.fc | apply Fr.al | apply Fr.fa)) (by rfl) ⟨rfl, ?_⟩)
        refine WL.nil ?_
        refine DN.then_normal ?_
        refine WC.ret ?_
        refine DN.retCF (s := 11) H Try.results67 (by kernel_rfl) rfl List.mem_cons_self (by rfl) ((List.sublist_cons_self _ _).trans (List.sublist_cons_self _ _)) ?_
        exact ⟨by simp [wo, woK, woD, ntc, *], rfl⟩
      · refine WC.seq ?_
        refine WC.region ?_
        refine WL.y rfl (Yd.eql rfl rfl) ?_
        refine WL.y rfl (Yd.assign rfl) ?_
        refine WL.nil ?_
        refine DN.then_normal ?_
        refine WC.ite rfl (fun h15 => ?_) (fun h15 => ?_)
        · refine WC.region ?_
          refine WL.y rfl (Yd.fieldAddr (k := 4) (by kernel_rfl) rfl) ?_
          refine WL.s (Hd.store1s (by kernel_rfl) rfl rfl (by rfl) (by repeat (first | exact Fr.here | apply Fr.fc | apply Fr.al | apply Fr.fa)) (by rfl) (by first | (simp only [List.set_cons_zero, List.set_cons_succ, Nat.zero_add, Nat.add_zero, Nat.reduceAdd]; rfl) | rfl) ⟨rfl, ?_⟩)
          refine WL.nil ?_
          refine DN.block_normal ?_
          refine DN.then_normal ?_
          refine WC.seq ?_
          refine WC.region ?_
          refine WL.h rfl (Hd.loadAll (n := 11) (by kernel_rfl) rfl (by repeat (first | exact List.mem_cons_self | apply List.mem_cons_of_mem | apply List.mem_append_right)) (by rfl) ⟨_, rfl, ?_⟩)
          refine WL.s (Hd.storeAll (n := 11) (by kernel_rfl) rfl rfl (by rfl) (by repeat (first | exact fun _ h => absurd h List.not_mem_nil | refine List.forall_mem_cons.2 ⟨by first | rfl | assumption, ?_⟩)) (by repeat (first | exact Fr.here | apply Fr.fc | apply Fr.al | apply Fr.fa)) (by rfl) ⟨rfl, ?_⟩)
          refine WL.nil ?_
          refine DN.then_normal ?_
          refine WC.ret ?_
          refine DN.retCF (s := 11) H Try.results67 (by kernel_rfl) rfl List.mem_cons_self (by rfl) ((List.sublist_cons_self _ _).trans (List.sublist_cons_self _ _)) ?_
          exact ⟨by simp [wo, woK, woD, ntc, *], rfl⟩
        · refine WC.seq ?_
          refine WC.region ?_
          refine WL.y rfl (Yd.eql rfl rfl) ?_
          refine WL.y rfl (Yd.assign rfl) ?_
          refine WL.nil ?_
          refine DN.then_normal ?_
          refine WC.ite rfl (fun h18 => ?_) (fun h18 => ?_)
          · refine WC.region ?_
            refine WL.y rfl (Yd.fieldAddr (k := 5) (by kernel_rfl) rfl) ?_
            refine WL.s (Hd.store1s (by kernel_rfl) rfl rfl (by rfl) (by repeat (first | exact Fr.here | apply Fr.fc | apply Fr.al | apply Fr.fa)) (by rfl) (by first | (simp only [List.set_cons_zero, List.set_cons_succ, Nat.zero_add, Nat.add_zero, Nat.reduceAdd]; rfl) | rfl) ⟨rfl, ?_⟩)
            refine WL.nil ?_
            refine DN.block_normal ?_
            refine DN.then_normal ?_
            refine WC.seq ?_
            refine WC.region ?_
            refine WL.h rfl (Hd.loadAll (n := 11) (by kernel_rfl) rfl (by repeat (first | exact List.mem_cons_self | apply List.mem_cons_of_mem | apply List.mem_append_right)) (by rfl) ⟨_, rfl, ?_⟩)
            refine WL.s (Hd.storeAll (n := 11) (by kernel_rfl) rfl rfl (by rfl) (by repeat (first | exact fun _ h => absurd h List.not_mem_nil | refine List.forall_mem_cons.2 ⟨by first | rfl | assumption, ?_⟩)) (by repeat (first | exact Fr.here | apply Fr.fc | apply Fr.al | apply Fr.fa)) (by rfl) ⟨rfl, ?_⟩)
            refine WL.nil ?_
            refine DN.then_normal ?_
            refine WC.ret ?_
            refine DN.retCF (s := 11) H Try.results67 (by kernel_rfl) rfl List.mem_cons_self (by rfl) ((List.sublist_cons_self _ _).trans (List.sublist_cons_self _ _)) ?_
            exact ⟨by simp [wo, woK, woD, ntc, *], rfl⟩
          · refine WC.seq ?_
            refine WC.region ?_
            refine WL.y rfl (Yd.eql rfl rfl) ?_
            refine WL.y rfl (Yd.assign rfl) ?_
            refine WL.nil ?_
            refine DN.then_normal ?_
            refine WC.ite rfl (fun h21 => ?_) (fun h21 => ?_)
            · refine WC.region ?_
              refine WL.y rfl (Yd.fieldAddr (k := 6) (by kernel_rfl) rfl) ?_
              refine WL.s (Hd.store1s (by kernel_rfl) rfl rfl (by rfl) (by repeat (first | exact Fr.here | apply Fr.fc | apply Fr.al | apply Fr.fa)) (by rfl) (by first | (simp only [List.set_cons_zero, List.set_cons_succ, Nat.zero_add, Nat.add_zero, Nat.reduceAdd]; rfl) | rfl) ⟨rfl, ?_⟩)
              refine WL.nil ?_
              refine DN.block_normal ?_
              refine DN.then_normal ?_
              refine WC.seq ?_
              refine WC.region ?_
              refine WL.h rfl (Hd.loadAll (n := 11) (by kernel_rfl) rfl (by repeat (first | exact List.mem_cons_self | apply List.mem_cons_of_mem | apply List.mem_append_right)) (by rfl) ⟨_, rfl, ?_⟩)
              refine WL.s (Hd.storeAll (n := 11) (by kernel_rfl) rfl rfl (by rfl) (by repeat (first | exact fun _ h => absurd h List.not_mem_nil | refine List.forall_mem_cons.2 ⟨by first | rfl | assumption, ?_⟩)) (by repeat (first | exact Fr.here | apply Fr.fc | apply Fr.al | apply Fr.fa)) (by rfl) ⟨rfl, ?_⟩)
              refine WL.nil ?_
              refine DN.then_normal ?_
              refine WC.ret ?_
              refine DN.retCF (s := 11) H Try.results67 (by kernel_rfl) rfl List.mem_cons_self (by rfl) ((List.sublist_cons_self _ _).trans (List.sublist_cons_self _ _)) ?_
              exact ⟨by simp [wo, woK, woD, ntc, *], rfl⟩
            · refine WC.seq ?_
              refine WC.region ?_
              refine WL.y rfl (Yd.eql rfl rfl) ?_
              refine WL.y rfl (Yd.assign rfl) ?_
              refine WL.nil ?_
              refine DN.then_normal ?_
              refine WC.ite rfl (fun h24 => ?_) (fun h24 => ?_)
              · refine WC.region ?_
                refine WL.y rfl (Yd.fieldAddr (k := 7) (by kernel_rfl) rfl) ?_
                refine WL.s (Hd.store1s (by kernel_rfl) rfl rfl (by rfl) (by repeat (first | exact Fr.here | apply Fr.fc | apply Fr.al | apply Fr.fa)) (by rfl) (by first | (simp only [List.set_cons_zero, List.set_cons_succ, Nat.zero_add, Nat.add_zero, Nat.reduceAdd]; rfl) | rfl) ⟨rfl, ?_⟩)
                refine WL.nil ?_
                refine DN.block_normal ?_
                refine DN.then_normal ?_
                refine WC.seq ?_
                refine WC.region ?_
                refine WL.h rfl (Hd.loadAll (n := 11) (by kernel_rfl) rfl (by repeat (first | exact List.mem_cons_self | apply List.mem_cons_of_mem | apply List.mem_append_right)) (by rfl) ⟨_, rfl, ?_⟩)
                refine WL.s (Hd.storeAll (n := 11) (by kernel_rfl) rfl rfl (by rfl) (by repeat (first | exact fun _ h => absurd h List.not_mem_nil | refine List.forall_mem_cons.2 ⟨by first | rfl | assumption, ?_⟩)) (by repeat (first | exact Fr.here | apply Fr.fc | apply Fr.al | apply Fr.fa)) (by rfl) ⟨rfl, ?_⟩)
                refine WL.nil ?_
                refine DN.then_normal ?_
                refine WC.ret ?_
                refine DN.retCF (s := 11) H Try.results67 (by kernel_rfl) rfl List.mem_cons_self (by rfl) ((List.sublist_cons_self _ _).trans (List.sublist_cons_self _ _)) ?_
                exact ⟨by simp [wo, woK, woD, ntc, *], rfl⟩
              · refine WC.seq ?_
                refine WC.region ?_
                refine WL.y rfl (Yd.eql rfl rfl) ?_
                refine WL.y rfl (Yd.assign rfl) ?_
                refine WL.nil ?_
                refine DN.then_normal ?_
                refine WC.ite rfl (fun h27 => ?_) (fun h27 => ?_)
                · refine WC.region ?_
                  refine WL.y rfl (Yd.fieldAddr (k := 8) (by kernel_rfl) rfl) ?_
                  refine WL.s (Hd.store1s (by kernel_rfl) rfl rfl (by rfl) (by repeat (first | exact Fr.here | apply Fr.fc | apply Fr.al | apply Fr.fa)) (by rfl) (by first | (simp only [List.set_cons_zero, List.set_cons_succ, Nat.zero_add, Nat.add_zero, Nat.reduceAdd]; rfl) | rfl) ⟨rfl, ?_⟩)
                  refine WL.nil ?_
                  refine DN.block_normal ?_
                  refine DN.then_normal ?_
                  refine WC.seq ?_
                  refine WC.region ?_
                  refine WL.h rfl (Hd.loadAll (n := 11) (by kernel_rfl) rfl (by repeat (first | exact List.mem_cons_self | apply List.mem_cons_of_mem | apply List.mem_append_right)) (by rfl) ⟨_, rfl, ?_⟩)
                  refine WL.s (Hd.storeAll (n := 11) (by kernel_rfl) rfl rfl (by rfl) (by repeat (first | exact fun _ h => absurd h List.not_mem_nil | refine List.forall_mem_cons.2 ⟨by first | rfl | assumption, ?_⟩)) (by repeat (first | exact Fr.here | apply Fr.fc | apply Fr.al | apply Fr.fa)) (by rfl) ⟨rfl, ?_⟩)
                  refine WL.nil ?_
                  refine DN.then_normal ?_
                  refine WC.ret ?_
                  refine DN.retCF (s := 11) H Try.results67 (by kernel_rfl) rfl List.mem_cons_self (by rfl) ((List.sublist_cons_self _ _).trans (List.sublist_cons_self _ _)) ?_
                  exact ⟨by simp [wo, woK, woD, ntc, *], rfl⟩
                · refine WC.seq ?_
                  refine WC.region ?_
                  refine WL.y rfl (Yd.eql rfl rfl) ?_
                  refine WL.y rfl (Yd.assign rfl) ?_
                  refine WL.nil ?_
                  refine DN.then_normal ?_
                  refine WC.ite rfl (fun h30 => ?_) (fun h30 => ?_)
                  · refine WC.region ?_
                    refine WL.y rfl (Yd.fieldAddr (k := 9) (by kernel_rfl) rfl) ?_
                    refine WL.s (Hd.store1s (by kernel_rfl) rfl rfl (by rfl) (by repeat (first | exact Fr.here | apply Fr.fc | apply Fr.al | apply Fr.fa)) (by rfl) (by first | (simp only [List.set_cons_zero, List.set_cons_succ, Nat.zero_add, Nat.add_zero, Nat.reduceAdd]; rfl) | rfl) ⟨rfl, ?_⟩)
                    refine WL.nil ?_
                    refine DN.block_normal ?_
                    refine DN.then_normal ?_
                    refine WC.seq ?_
                    refine WC.region ?_
                    refine WL.h rfl (Hd.loadAll (n := 11) (by kernel_rfl) rfl (by repeat (first | exact List.mem_cons_self | apply List.mem_cons_of_mem | apply List.mem_append_right)) (by rfl) ⟨_, rfl, ?_⟩)
                    refine WL.s (Hd.storeAll (n := 11) (by kernel_rfl) rfl rfl (by rfl) (by repeat (first | exact fun _ h => absurd h List.not_mem_nil | refine List.forall_mem_cons.2 ⟨by first | rfl | assumption, ?_⟩)) (by repeat (first | exact Fr.here | apply Fr.fc | apply Fr.al | apply Fr.fa)) (by rfl) ⟨rfl, ?_⟩)
                    refine WL.nil ?_
                    refine DN.then_normal ?_
                    refine WC.ret ?_
                    refine DN.retCF (s := 11) H Try.results67 (by kernel_rfl) rfl List.mem_cons_self (by rfl) ((List.sublist_cons_self _ _).trans (List.sublist_cons_self _ _)) ?_
                    exact ⟨by simp [wo, woK, woD, ntc, *], rfl⟩
                  · refine WC.seq ?_
                    refine WC.region ?_
                    refine WL.y rfl (Yd.eql rfl rfl) ?_
                    refine WL.y rfl (Yd.assign rfl) ?_
                    refine WL.nil ?_
                    refine DN.then_normal ?_
                    refine WC.ite rfl (fun h33 => ?_) (fun h33 => ?_)
                    · refine WC.region ?_
                      refine WL.y rfl (Yd.fieldAddr (k := 10) (by kernel_rfl) rfl) ?_
                      refine WL.s (Hd.store1s (by kernel_rfl) rfl rfl (by rfl) (by repeat (first | exact Fr.here | apply Fr.fc | apply Fr.al | apply Fr.fa)) (by rfl) (by first | (simp only [List.set_cons_zero, List.set_cons_succ, Nat.zero_add, Nat.add_zero, Nat.reduceAdd]; rfl) | rfl) ⟨rfl, ?_⟩)
                      refine WL.nil ?_
                      refine DN.block_normal ?_
                      refine DN.then_normal ?_
                      refine WC.seq ?_
                      refine WC.region ?_
                      refine WL.h rfl (Hd.loadAll (n := 11) (by kernel_rfl) rfl (by repeat (first | exact List.mem_cons_self | apply List.mem_cons_of_mem | apply List.mem_append_right)) (by rfl) ⟨_, rfl, ?_⟩)
                      refine WL.s (Hd.storeAll (n := 11) (by kernel_rfl) rfl rfl (by rfl) (by repeat (first | exact fun _ h => absurd h List.not_mem_nil | refine List.forall_mem_cons.2 ⟨by first | rfl | assumption, ?_⟩)) (by repeat (first | exact Fr.here | apply Fr.fc | apply Fr.al | apply Fr.fa)) (by rfl) ⟨rfl, ?_⟩)
                      refine WL.nil ?_
                      refine DN.then_normal ?_
                      refine WC.ret ?_
                      refine DN.retCF (s := 11) H Try.results67 (by kernel_rfl) rfl List.mem_cons_self (by rfl) ((List.sublist_cons_self _ _).trans (List.sublist_cons_self _ _)) ?_
                      exact ⟨by simp [wo, woK, woD, ntc, *], rfl⟩
                    · refine WC.skip ?_
                      refine DN.block_normal ?_
                      refine DN.then_normal ?_
                      refine WC.seq ?_
                      refine WC.region ?_
                      refine WL.h rfl (Hd.loadAll (n := 11) (by kernel_rfl) rfl (by repeat (first | exact List.mem_cons_self | apply List.mem_cons_of_mem | apply List.mem_append_right)) (by rfl) ⟨_, rfl, ?_⟩)
                      refine WL.s (Hd.storeAll (n := 11) (by kernel_rfl) rfl rfl (by rfl) (by repeat (first | exact fun _ h => absurd h List.not_mem_nil | refine List.forall_mem_cons.2 ⟨by first | rfl | assumption, ?_⟩)) (by repeat (first | exact Fr.here | apply Fr.fc | apply Fr.al | apply Fr.fa)) (by rfl) ⟨rfl, ?_⟩)
                      refine WL.nil ?_
                      refine DN.then_normal ?_
                      refine WC.ret ?_
                      refine DN.retCF (s := 11) H Try.results67 (by kernel_rfl) rfl List.mem_cons_self (by rfl) ((List.sublist_cons_self _ _).trans (List.sublist_cons_self _ _)) ?_
                      exact ⟨by simp [wo, woK, woD, ntc, *], rfl⟩

/-- drayage/note.Check -/
theorem check_reads (n : Nt) (vk vd : Value) (hk : IsSl vk n.key.length) (hd : IsSl vd n.data.length) (H : List Ck) : Reads Try.prog 46 [.agg (ntc n vk vd).toArray] H (.int .i64 (if noteBad n then 50 else 0)) := by
  refine Tells.enter Try.func46 rfl Try.ntmps46 rfl ?_
  intro w0 R
  obtain ⟨ko, kc, rfl⟩ := hk
  obtain ⟨eo, ec, rfl⟩ := hd
  refine WC.seq ?_
  refine WC.region ?_
  refine WL.h rfl (Hd.boxA rfl fun b1 => ⟨_, rfl, ?_⟩)
  refine WL.y rfl (Yd.assign rfl) ?_
  refine WL.nil ?_
  refine DN.then_normal ?_
  refine WC.seq ?_
  refine WC.region ?_
  refine WL.y rfl (Yd.fieldAddr (k := 0) (by kernel_rfl) rfl) ?_
  refine WL.h rfl (Hd.load1 (by kernel_rfl) rfl (by repeat (first | exact List.mem_cons_self | apply List.mem_cons_of_mem | apply List.mem_append_right)) (by rfl) ⟨_, rfl, ?_⟩)
  refine WL.r rfl (Ent.func Try.call66 rfl) (names_reads n.kind _) ?_
  refine WL.y rfl (Yd.assign rfl) ?_
  refine WL.nil ?_
  refine DN.then_normal ?_
  refine WC.seq ?_
  refine WC.region ?_
  refine WL.h rfl (Hd.loadAll (n := 11) (by kernel_rfl) rfl (by repeat (first | exact List.mem_cons_self | apply List.mem_cons_of_mem | apply List.mem_append_right)) (by rfl) ⟨_, rfl, ?_⟩)
  refine WL.h rfl (Hd.alloc (zs := [.int .i64 0, .int .u32 0, .int .u32 0, .int .u64 0, .int .u64 0, .int .u32 0, .int .i64 0, .bool false, .int .i64 0, .slice none 0 0, .slice none 0 0]) (by kernel_rfl) fun b4 => ⟨_, rfl, ?_⟩)
  refine WL.s (Hd.storeAll (n := 11) (by kernel_rfl) rfl rfl (by rfl) (by repeat (first | exact fun _ h => absurd h List.not_mem_nil | refine List.forall_mem_cons.2 ⟨by first | rfl | assumption, ?_⟩)) (by repeat (first | exact Fr.here | apply Fr.fc | apply Fr.al | apply Fr.fa)) (by rfl) ⟨rfl, ?_⟩)
  refine WL.nil ?_
  refine DN.then_normal ?_
  refine WC.seq ?_
  refine WC.seq ?_
  refine WC.region ?_
  refine WL.y rfl (Yd.move rfl) ?_
  refine WL.h rfl (Hd.rangeS (by kernel_rfl) rfl fun b14 => ⟨_, rfl, ?_⟩)
  refine WL.nil ?_
  refine DN.then_normal ?_
  refine WC.block ?_
  refine WC.loopK (fun z : Nat × Value × Value => z.1 ≤ (nm n.kind).length ∧ IsSl z.2.1 (restTo n z.1).key.length ∧ IsSl z.2.2 (restTo n z.1).data.length) (fun z : Nat × Value × Value => []) (fun z : Nat × Value × Value => row b4 (ntc (restTo n z.1) z.2.1 z.2.2) 29 :: ⟨b14, .stringIter (nmS n.kind) z.1, true⟩ :: row b1 (ntc n (.slice ko n.key.length kc) (.slice eo n.data.length ec)) 29 :: H) (fun z : Nat × Value × Value => (nm n.kind).length - z.1) ((0, .slice ko n.key.length kc, .slice eo n.data.length ec)) (⟨Nat.zero_le _, ⟨_, _, rfl⟩, ⟨_, _, rfl⟩⟩) ((by repeat (first | exact Sx.refl | refine Sx.skip rfl ?_))) (Sp.all (by repeat (first | exact Sp.here | exact Sp.sn | exact Sp.s0 | exact Fr.here | apply Sp.s2 | apply Sp.sx | apply Fr.fc | apply Fr.al | apply Fr.fa | apply Sp.sc | apply Sp.al | apply Sp.sa))) ?_
  rintro ⟨i, vk, vd⟩ ⟨hi, hs1, hs2⟩
  simp only at hi hs1 hs2
  obtain ⟨mo, mc, rfl⟩ := hs1
  obtain ⟨oo, oc, rfl⟩ := hs2
  refine WC.seq ?_
  refine WC.region ?_
  refine WL.h rfl (Hd.nextS rfl (by repeat (first | exact Fr.here | apply Fr.fc | apply Fr.al | apply Fr.fa)) (fun hlt => ⟨nmS_small n.kind i hlt, ⟨_, rfl, ?_⟩⟩) (fun hge => ⟨_, rfl, ?_⟩))
  · rw [nmS_at _ _ hlt]
    rw [nmS_size] at hlt
    refine WL.y rfl (Yd.extract rfl rfl) ?_
    refine WL.nil ?_
    refine DN.then_normal ?_
    refine WC.seq ?_
    refine WC.yes rfl ?_
    refine WC.skip ?_
    refine DN.then_normal ?_
    refine WC.block ?_
    refine WC.seq ?_
    refine WC.region ?_
    refine WL.y rfl (Yd.extract rfl rfl) ?_
    refine WL.y rfl (Yd.assign rfl) ?_
    refine WL.nil ?_
    refine DN.then_normal ?_
    refine WC.region ?_
    refine WL.h rfl (Hd.loadAll (n := 11) (by kernel_rfl) rfl (by repeat (first | exact List.mem_cons_self | apply List.mem_cons_of_mem | apply List.mem_append_right)) (by rfl) ⟨_, rfl, ?_⟩)
    refine WL.y rfl (Yd.move rfl) ?_
    refine WL.r rfl (Ent.func Try.call67 rfl) (without_reads (restTo n i) (.slice mo _ mc) (.slice oo _ oc) _ rfl rfl _) ?_
    refine WL.s (Hd.storeAll (n := 11) (by kernel_rfl) rfl rfl (by rfl) (ntc_one (IsSl.woK (v := .slice mo (restTo n i).key.length mc) (n := restTo n i) ⟨_, _, rfl⟩ _).one (IsSl.woD (v := .slice oo (restTo n i).data.length oc) (n := restTo n i) ⟨_, _, rfl⟩ _).one) (by repeat (first | exact Fr.here | apply Fr.fc | apply Fr.al | apply Fr.fa)) (by rfl) ⟨rfl, ?_⟩)
    refine WL.nil ?_
    refine DN.block_normal ?_
    have en := restTo_next n i hlt
    have hsl1 := IsSl.woK (v := .slice mo (restTo n i).key.length mc) (n := restTo n i) ⟨_, _, rfl⟩ ((nm n.kind).getD i 0 : Nat)
    have hsl2 := IsSl.woD (v := .slice oo (restTo n i).data.length oc) (n := restTo n i) ⟨_, _, rfl⟩ ((nm n.kind).getD i 0 : Nat)
    rw [← en] at hsl1 hsl2 ⊢
    exact DN.againK ((i + 1, _, _)) (⟨by show i + 1 ≤ (nm n.kind).length; omega, hsl1, hsl2⟩) (show (nm n.kind).length - (i + 1) < (nm n.kind).length - i by omega) ((by repeat (first | exact Sx.refl | refine Sx.skip rfl ?_))) (Sp.all (by repeat (first | exact Sp.here | exact Sp.sn | exact Sp.s0 | exact Fr.here | apply Sp.s2 | apply Sp.sx | apply Fr.fc | apply Fr.al | apply Fr.fa | apply Sp.sc | apply Sp.al | apply Sp.sa)))
  · rw [nmS_size] at hge
    obtain rfl : i = (nm n.kind).length := by omega
    rw [show restTo n (nm n.kind).length = rest n from rfl]
    refine WL.y rfl (Yd.extract rfl rfl) ?_
    refine WL.nil ?_
    refine DN.then_normal ?_
    refine WC.seq ?_
    refine WC.no rfl ?_
    refine WC.exit ?_
    refine DN.then_exit ?_
    refine DN.then_exit ?_
    refine DN.block_exit ?_
    refine DN.then_normal ?_
    refine WC.cutK (fun z : Bool => z = moreB (rest n)) (fun z : Bool => [(7, .bool z)]) (fun z : Bool => row b4 (ntc (rest n) (.slice mo (rest n).key.length mc) (.slice oo (rest n).data.length oc)) 29 :: ⟨b14, .stringIter (nmS n.kind) (nm n.kind).length, true⟩ :: row b1 (ntc n (.slice ko n.key.length kc) (.slice eo n.data.length ec)) 29 :: H) ?_ ?_
    · refine WC.region ?_
      refine WL.y rfl (Yd.fieldAddr (k := 1) (by kernel_rfl) rfl) ?_
      refine WL.h rfl (Hd.load1 (by kernel_rfl) rfl (by repeat (first | exact List.mem_cons_self | apply List.mem_cons_of_mem | apply List.mem_append_right)) (by rfl) ⟨_, rfl, ?_⟩)
      refine WL.y rfl (Yd.gtr rfl rfl) ?_
      refine WL.y rfl (Yd.move rfl) ?_
      refine WL.partP (t := 24) rfl (fun hg24 => ?_) (fun hg24 => ?_)
      · refine WL.gn (dj := 24) rfl rfl rfl rfl ?_
        refine WL.gn (dj := 24) rfl rfl rfl rfl ?_
        refine WL.gn (dj := 24) rfl rfl rfl rfl ?_
        refine WL.y rfl (Yd.pickT rfl rfl) ?_
        refine WL.y rfl (Yd.move rfl) ?_
        refine WL.gn (dj := 29) rfl rfl rfl rfl ?_
        refine WL.gn (dj := 29) rfl rfl rfl rfl ?_
        refine WL.gn (dj := 29) rfl rfl rfl rfl ?_
        refine WL.y rfl (Yd.pickT rfl rfl) ?_
        refine WL.y rfl (Yd.move rfl) ?_
        refine WL.gn (dj := 34) rfl rfl rfl rfl ?_
        refine WL.gn (dj := 34) rfl rfl rfl rfl ?_
        refine WL.gn (dj := 34) rfl rfl rfl rfl ?_
        refine WL.y rfl (Yd.pickT rfl rfl) ?_
        refine WL.y rfl (Yd.move rfl) ?_
        refine WL.gn (dj := 39) rfl rfl rfl rfl ?_
        refine WL.gn (dj := 39) rfl rfl rfl rfl ?_
        refine WL.gn (dj := 39) rfl rfl rfl rfl ?_
        refine WL.y rfl (Yd.pickT rfl rfl) ?_
        refine WL.y rfl (Yd.move rfl) ?_
        refine WL.gn (dj := 44) rfl rfl rfl rfl ?_
        refine WL.gn (dj := 44) rfl rfl rfl rfl ?_
        refine WL.gn (dj := 44) rfl rfl rfl rfl ?_
        refine WL.y rfl (Yd.pickT rfl rfl) ?_
        refine WL.y rfl (Yd.move rfl) ?_
        refine WL.gn (dj := 49) rfl rfl rfl rfl ?_
        refine WL.gn (dj := 49) rfl rfl rfl rfl ?_
        refine WL.y rfl (Yd.pickT rfl rfl) ?_
        refine WL.y rfl (Yd.move rfl) ?_
        refine WL.gn (dj := 53) rfl rfl rfl rfl ?_
        refine WL.gn (dj := 53) rfl rfl rfl rfl ?_
        refine WL.gn (dj := 53) rfl rfl rfl rfl ?_
        refine WL.y rfl (Yd.pickT rfl rfl) ?_
        refine WL.y rfl (Yd.move rfl) ?_
        refine WL.gn (dj := 58) rfl rfl rfl rfl ?_
        refine WL.gn (dj := 58) rfl rfl rfl rfl ?_
        refine WL.gn (dj := 58) rfl rfl rfl rfl ?_
        refine WL.gn (dj := 58) rfl rfl rfl rfl ?_
        refine WL.y rfl (Yd.pickT rfl rfl) ?_
        refine WL.y rfl (Yd.move rfl) ?_
        refine WL.gn (dj := 64) rfl rfl rfl rfl ?_
        refine WL.gn (dj := 64) rfl rfl rfl rfl ?_
        refine WL.gn (dj := 64) rfl rfl rfl rfl ?_
        refine WL.gn (dj := 64) rfl rfl rfl rfl ?_
        refine WL.y rfl (Yd.pickT rfl rfl) ?_
        refine WL.y rfl (Yd.assign rfl) ?_
        refine WL.nil ?_
        exact DN.reachK (_) (by rw [Bool.eq_iff_iff]; simp only [moreB, Bool.or_eq_true, decide_eq_true_eq, true_iff]; first | omega | (simp only [*, Bool.false_eq_true, false_or, true_or, or_true]; omega) | (simp [*]; done) | (simp [*]; omega)) (Sx.put rfl ((by repeat (first | exact Sx.refl | refine Sx.skip rfl ?_)))) (Sp.all (by repeat (first | exact Sp.here | exact Sp.sn | exact Sp.s0 | exact Fr.here | apply Sp.s2 | apply Sp.sx | apply Fr.fc | apply Fr.al | apply Fr.fa | apply Sp.sc | apply Sp.al | apply Sp.sa)))
      · refine WL.gy (dj := 24) rfl rfl rfl (Yd.fieldAddr (k := 2) (by kernel_rfl) rfl) ?_
        refine WL.gh (dj := 24) rfl rfl rfl (Hd.load1 (by kernel_rfl) rfl (by repeat (first | exact List.mem_cons_self | apply List.mem_cons_of_mem | apply List.mem_append_right)) (by rfl) ⟨_, rfl, ?_⟩)
        refine WL.gy (dj := 24) rfl rfl rfl (Yd.gtr rfl rfl) ?_
        refine WL.y rfl (Yd.pickF rfl rfl) ?_
        refine WL.y rfl (Yd.move rfl) ?_
        refine WL.partP (t := 29) rfl (fun hg29 => ?_) (fun hg29 => ?_)
        · refine WL.gn (dj := 29) rfl rfl rfl rfl ?_
          refine WL.gn (dj := 29) rfl rfl rfl rfl ?_
          refine WL.gn (dj := 29) rfl rfl rfl rfl ?_
          refine WL.y rfl (Yd.pickT rfl rfl) ?_
          refine WL.y rfl (Yd.move rfl) ?_
          refine WL.gn (dj := 34) rfl rfl rfl rfl ?_
          refine WL.gn (dj := 34) rfl rfl rfl rfl ?_
          refine WL.gn (dj := 34) rfl rfl rfl rfl ?_
          refine WL.y rfl (Yd.pickT rfl rfl) ?_
          refine WL.y rfl (Yd.move rfl) ?_
          refine WL.gn (dj := 39) rfl rfl rfl rfl ?_
          refine WL.gn (dj := 39) rfl rfl rfl rfl ?_
          refine WL.gn (dj := 39) rfl rfl rfl rfl ?_
          refine WL.y rfl (Yd.pickT rfl rfl) ?_
          refine WL.y rfl (Yd.move rfl) ?_
          refine WL.gn (dj := 44) rfl rfl rfl rfl ?_
          refine WL.gn (dj := 44) rfl rfl rfl rfl ?_
          refine WL.gn (dj := 44) rfl rfl rfl rfl ?_
          refine WL.y rfl (Yd.pickT rfl rfl) ?_
          refine WL.y rfl (Yd.move rfl) ?_
          refine WL.gn (dj := 49) rfl rfl rfl rfl ?_
          refine WL.gn (dj := 49) rfl rfl rfl rfl ?_
          refine WL.y rfl (Yd.pickT rfl rfl) ?_
          refine WL.y rfl (Yd.move rfl) ?_
          refine WL.gn (dj := 53) rfl rfl rfl rfl ?_
          refine WL.gn (dj := 53) rfl rfl rfl rfl ?_
          refine WL.gn (dj := 53) rfl rfl rfl rfl ?_
          refine WL.y rfl (Yd.pickT rfl rfl) ?_
          refine WL.y rfl (Yd.move rfl) ?_
          refine WL.gn (dj := 58) rfl rfl rfl rfl ?_
          refine WL.gn (dj := 58) rfl rfl rfl rfl ?_
          refine WL.gn (dj := 58) rfl rfl rfl rfl ?_
          refine WL.gn (dj := 58) rfl rfl rfl rfl ?_
          refine WL.y rfl (Yd.pickT rfl rfl) ?_
          refine WL.y rfl (Yd.move rfl) ?_
          refine WL.gn (dj := 64) rfl rfl rfl rfl ?_
          refine WL.gn (dj := 64) rfl rfl rfl rfl ?_
          refine WL.gn (dj := 64) rfl rfl rfl rfl ?_
          refine WL.gn (dj := 64) rfl rfl rfl rfl ?_
          refine WL.y rfl (Yd.pickT rfl rfl) ?_
          refine WL.y rfl (Yd.assign rfl) ?_
          refine WL.nil ?_
          exact DN.reachK (_) (by rw [Bool.eq_iff_iff]; simp only [moreB, Bool.or_eq_true, decide_eq_true_eq, true_iff]; first | omega | (simp only [*, Bool.false_eq_true, false_or, true_or, or_true]; omega) | (simp [*]; done) | (simp [*]; omega)) (Sx.put rfl ((by repeat (first | exact Sx.refl | refine Sx.skip rfl ?_)))) (Sp.all (by repeat (first | exact Sp.here | exact Sp.sn | exact Sp.s0 | exact Fr.here | apply Sp.s2 | apply Sp.sx | apply Fr.fc | apply Fr.al | apply Fr.fa | apply Sp.sc | apply Sp.al | apply Sp.sa)))
        · refine WL.gy (dj := 29) rfl rfl rfl (Yd.fieldAddr (k := 3) (by kernel_rfl) rfl) ?_
          refine WL.gh (dj := 29) rfl rfl rfl (Hd.load1 (by kernel_rfl) rfl (by repeat (first | exact List.mem_cons_self | apply List.mem_cons_of_mem | apply List.mem_append_right)) (by rfl) ⟨_, rfl, ?_⟩)
          refine WL.gy (dj := 29) rfl rfl rfl (Yd.gtr rfl rfl) ?_
          refine WL.y rfl (Yd.pickF rfl rfl) ?_
          refine WL.y rfl (Yd.move rfl) ?_
          refine WL.partP (t := 34) rfl (fun hg34 => ?_) (fun hg34 => ?_)
          · refine WL.gn (dj := 34) rfl rfl rfl rfl ?_
            refine WL.gn (dj := 34) rfl rfl rfl rfl ?_
            refine WL.gn (dj := 34) rfl rfl rfl rfl ?_
            refine WL.y rfl (Yd.pickT rfl rfl) ?_
            refine WL.y rfl (Yd.move rfl) ?_
            refine WL.gn (dj := 39) rfl rfl rfl rfl ?_
            refine WL.gn (dj := 39) rfl rfl rfl rfl ?_
            refine WL.gn (dj := 39) rfl rfl rfl rfl ?_
            refine WL.y rfl (Yd.pickT rfl rfl) ?_
            refine WL.y rfl (Yd.move rfl) ?_
            refine WL.gn (dj := 44) rfl rfl rfl rfl ?_
            refine WL.gn (dj := 44) rfl rfl rfl rfl ?_
            refine WL.gn (dj := 44) rfl rfl rfl rfl ?_
            refine WL.y rfl (Yd.pickT rfl rfl) ?_
            refine WL.y rfl (Yd.move rfl) ?_
            refine WL.gn (dj := 49) rfl rfl rfl rfl ?_
            refine WL.gn (dj := 49) rfl rfl rfl rfl ?_
            refine WL.y rfl (Yd.pickT rfl rfl) ?_
            refine WL.y rfl (Yd.move rfl) ?_
            refine WL.gn (dj := 53) rfl rfl rfl rfl ?_
            refine WL.gn (dj := 53) rfl rfl rfl rfl ?_
            refine WL.gn (dj := 53) rfl rfl rfl rfl ?_
            refine WL.y rfl (Yd.pickT rfl rfl) ?_
            refine WL.y rfl (Yd.move rfl) ?_
            refine WL.gn (dj := 58) rfl rfl rfl rfl ?_
            refine WL.gn (dj := 58) rfl rfl rfl rfl ?_
            refine WL.gn (dj := 58) rfl rfl rfl rfl ?_
            refine WL.gn (dj := 58) rfl rfl rfl rfl ?_
            refine WL.y rfl (Yd.pickT rfl rfl) ?_
            refine WL.y rfl (Yd.move rfl) ?_
            refine WL.gn (dj := 64) rfl rfl rfl rfl ?_
            refine WL.gn (dj := 64) rfl rfl rfl rfl ?_
            refine WL.gn (dj := 64) rfl rfl rfl rfl ?_
            refine WL.gn (dj := 64) rfl rfl rfl rfl ?_
            refine WL.y rfl (Yd.pickT rfl rfl) ?_
            refine WL.y rfl (Yd.assign rfl) ?_
            refine WL.nil ?_
            exact DN.reachK (_) (by rw [Bool.eq_iff_iff]; simp only [moreB, Bool.or_eq_true, decide_eq_true_eq, true_iff]; first | omega | (simp only [*, Bool.false_eq_true, false_or, true_or, or_true]; omega) | (simp [*]; done) | (simp [*]; omega)) (Sx.put rfl ((by repeat (first | exact Sx.refl | refine Sx.skip rfl ?_)))) (Sp.all (by repeat (first | exact Sp.here | exact Sp.sn | exact Sp.s0 | exact Fr.here | apply Sp.s2 | apply Sp.sx | apply Fr.fc | apply Fr.al | apply Fr.fa | apply Sp.sc | apply Sp.al | apply Sp.sa)))
          · refine WL.gy (dj := 34) rfl rfl rfl (Yd.fieldAddr (k := 4) (by kernel_rfl) rfl) ?_
            refine WL.gh (dj := 34) rfl rfl rfl (Hd.load1 (by kernel_rfl) rfl (by repeat (first | exact List.mem_cons_self | apply List.mem_cons_of_mem | apply List.mem_append_right)) (by rfl) ⟨_, rfl, ?_⟩)
            refine WL.gy (dj := 34) rfl rfl rfl (Yd.gtr rfl rfl) ?_
            refine WL.y rfl (Yd.pickF rfl rfl) ?_
            refine WL.y rfl (Yd.move rfl) ?_
            refine WL.partP (t := 39) rfl (fun hg39 => ?_) (fun hg39 => ?_)
            · refine WL.gn (dj := 39) rfl rfl rfl rfl ?_
              refine WL.gn (dj := 39) rfl rfl rfl rfl ?_
              refine WL.gn (dj := 39) rfl rfl rfl rfl ?_
              refine WL.y rfl (Yd.pickT rfl rfl) ?_
              refine WL.y rfl (Yd.move rfl) ?_
              refine WL.gn (dj := 44) rfl rfl rfl rfl ?_
              refine WL.gn (dj := 44) rfl rfl rfl rfl ?_
              refine WL.gn (dj := 44) rfl rfl rfl rfl ?_
              refine WL.y rfl (Yd.pickT rfl rfl) ?_
              refine WL.y rfl (Yd.move rfl) ?_
              refine WL.gn (dj := 49) rfl rfl rfl rfl ?_
              refine WL.gn (dj := 49) rfl rfl rfl rfl ?_
              refine WL.y rfl (Yd.pickT rfl rfl) ?_
              refine WL.y rfl (Yd.move rfl) ?_
              refine WL.gn (dj := 53) rfl rfl rfl rfl ?_
              refine WL.gn (dj := 53) rfl rfl rfl rfl ?_
              refine WL.gn (dj := 53) rfl rfl rfl rfl ?_
              refine WL.y rfl (Yd.pickT rfl rfl) ?_
              refine WL.y rfl (Yd.move rfl) ?_
              refine WL.gn (dj := 58) rfl rfl rfl rfl ?_
              refine WL.gn (dj := 58) rfl rfl rfl rfl ?_
              refine WL.gn (dj := 58) rfl rfl rfl rfl ?_
              refine WL.gn (dj := 58) rfl rfl rfl rfl ?_
              refine WL.y rfl (Yd.pickT rfl rfl) ?_
              refine WL.y rfl (Yd.move rfl) ?_
              refine WL.gn (dj := 64) rfl rfl rfl rfl ?_
              refine WL.gn (dj := 64) rfl rfl rfl rfl ?_
              refine WL.gn (dj := 64) rfl rfl rfl rfl ?_
              refine WL.gn (dj := 64) rfl rfl rfl rfl ?_
              refine WL.y rfl (Yd.pickT rfl rfl) ?_
              refine WL.y rfl (Yd.assign rfl) ?_
              refine WL.nil ?_
              exact DN.reachK (_) (by rw [Bool.eq_iff_iff]; simp only [moreB, Bool.or_eq_true, decide_eq_true_eq, true_iff]; first | omega | (simp only [*, Bool.false_eq_true, false_or, true_or, or_true]; omega) | (simp [*]; done) | (simp [*]; omega)) (Sx.put rfl ((by repeat (first | exact Sx.refl | refine Sx.skip rfl ?_)))) (Sp.all (by repeat (first | exact Sp.here | exact Sp.sn | exact Sp.s0 | exact Fr.here | apply Sp.s2 | apply Sp.sx | apply Fr.fc | apply Fr.al | apply Fr.fa | apply Sp.sc | apply Sp.al | apply Sp.sa)))
            · refine WL.gy (dj := 39) rfl rfl rfl (Yd.fieldAddr (k := 5) (by kernel_rfl) rfl) ?_
              refine WL.gh (dj := 39) rfl rfl rfl (Hd.load1 (by kernel_rfl) rfl (by repeat (first | exact List.mem_cons_self | apply List.mem_cons_of_mem | apply List.mem_append_right)) (by rfl) ⟨_, rfl, ?_⟩)
              refine WL.gy (dj := 39) rfl rfl rfl (Yd.gtr rfl rfl) ?_
              refine WL.y rfl (Yd.pickF rfl rfl) ?_
              refine WL.y rfl (Yd.move rfl) ?_
              refine WL.partP (t := 44) rfl (fun hg44 => ?_) (fun hg44 => ?_)
              · refine WL.gn (dj := 44) rfl rfl rfl rfl ?_
                refine WL.gn (dj := 44) rfl rfl rfl rfl ?_
                refine WL.gn (dj := 44) rfl rfl rfl rfl ?_
                refine WL.y rfl (Yd.pickT rfl rfl) ?_
                refine WL.y rfl (Yd.move rfl) ?_
                refine WL.gn (dj := 49) rfl rfl rfl rfl ?_
                refine WL.gn (dj := 49) rfl rfl rfl rfl ?_
                refine WL.y rfl (Yd.pickT rfl rfl) ?_
                refine WL.y rfl (Yd.move rfl) ?_
                refine WL.gn (dj := 53) rfl rfl rfl rfl ?_
                refine WL.gn (dj := 53) rfl rfl rfl rfl ?_
                refine WL.gn (dj := 53) rfl rfl rfl rfl ?_
                refine WL.y rfl (Yd.pickT rfl rfl) ?_
                refine WL.y rfl (Yd.move rfl) ?_
                refine WL.gn (dj := 58) rfl rfl rfl rfl ?_
                refine WL.gn (dj := 58) rfl rfl rfl rfl ?_
                refine WL.gn (dj := 58) rfl rfl rfl rfl ?_
                refine WL.gn (dj := 58) rfl rfl rfl rfl ?_
                refine WL.y rfl (Yd.pickT rfl rfl) ?_
                refine WL.y rfl (Yd.move rfl) ?_
                refine WL.gn (dj := 64) rfl rfl rfl rfl ?_
                refine WL.gn (dj := 64) rfl rfl rfl rfl ?_
                refine WL.gn (dj := 64) rfl rfl rfl rfl ?_
                refine WL.gn (dj := 64) rfl rfl rfl rfl ?_
                refine WL.y rfl (Yd.pickT rfl rfl) ?_
                refine WL.y rfl (Yd.assign rfl) ?_
                refine WL.nil ?_
                exact DN.reachK (_) (by rw [Bool.eq_iff_iff]; simp only [moreB, Bool.or_eq_true, decide_eq_true_eq, true_iff]; first | omega | (simp only [*, Bool.false_eq_true, false_or, true_or, or_true]; omega) | (simp [*]; done) | (simp [*]; omega)) (Sx.put rfl ((by repeat (first | exact Sx.refl | refine Sx.skip rfl ?_)))) (Sp.all (by repeat (first | exact Sp.here | exact Sp.sn | exact Sp.s0 | exact Fr.here | apply Sp.s2 | apply Sp.sx | apply Fr.fc | apply Fr.al | apply Fr.fa | apply Sp.sc | apply Sp.al | apply Sp.sa)))
              · refine WL.gy (dj := 44) rfl rfl rfl (Yd.fieldAddr (k := 6) (by kernel_rfl) rfl) ?_
                refine WL.gh (dj := 44) rfl rfl rfl (Hd.load1 (by kernel_rfl) rfl (by repeat (first | exact List.mem_cons_self | apply List.mem_cons_of_mem | apply List.mem_append_right)) (by rfl) ⟨_, rfl, ?_⟩)
                refine WL.gy (dj := 44) rfl rfl rfl (Yd.neq rfl rfl) ?_
                refine WL.y rfl (Yd.pickF rfl rfl) ?_
                refine WL.y rfl (Yd.move rfl) ?_
                refine WL.partP (t := 49) rfl (fun hg49 => ?_) (fun hg49 => ?_)
                · refine WL.gn (dj := 49) rfl rfl rfl rfl ?_
                  refine WL.gn (dj := 49) rfl rfl rfl rfl ?_
                  refine WL.y rfl (Yd.pickT rfl rfl) ?_
                  refine WL.y rfl (Yd.move rfl) ?_
                  refine WL.gn (dj := 53) rfl rfl rfl rfl ?_
                  refine WL.gn (dj := 53) rfl rfl rfl rfl ?_
                  refine WL.gn (dj := 53) rfl rfl rfl rfl ?_
                  refine WL.y rfl (Yd.pickT rfl rfl) ?_
                  refine WL.y rfl (Yd.move rfl) ?_
                  refine WL.gn (dj := 58) rfl rfl rfl rfl ?_
                  refine WL.gn (dj := 58) rfl rfl rfl rfl ?_
                  refine WL.gn (dj := 58) rfl rfl rfl rfl ?_
                  refine WL.gn (dj := 58) rfl rfl rfl rfl ?_
                  refine WL.y rfl (Yd.pickT rfl rfl) ?_
                  refine WL.y rfl (Yd.move rfl) ?_
                  refine WL.gn (dj := 64) rfl rfl rfl rfl ?_
                  refine WL.gn (dj := 64) rfl rfl rfl rfl ?_
                  refine WL.gn (dj := 64) rfl rfl rfl rfl ?_
                  refine WL.gn (dj := 64) rfl rfl rfl rfl ?_
                  refine WL.y rfl (Yd.pickT rfl rfl) ?_
                  refine WL.y rfl (Yd.assign rfl) ?_
                  refine WL.nil ?_
                  exact DN.reachK (_) (by rw [Bool.eq_iff_iff]; simp only [moreB, Bool.or_eq_true, decide_eq_true_eq, true_iff]; first | omega | (simp only [*, Bool.false_eq_true, false_or, true_or, or_true]; omega) | (simp [*]; done) | (simp [*]; omega)) (Sx.put rfl ((by repeat (first | exact Sx.refl | refine Sx.skip rfl ?_)))) (Sp.all (by repeat (first | exact Sp.here | exact Sp.sn | exact Sp.s0 | exact Fr.here | apply Sp.s2 | apply Sp.sx | apply Fr.fc | apply Fr.al | apply Fr.fa | apply Sp.sc | apply Sp.al | apply Sp.sa)))
                · refine WL.gy (dj := 49) rfl rfl rfl (Yd.fieldAddr (k := 7) (by kernel_rfl) rfl) ?_
                  refine WL.gh (dj := 49) rfl rfl rfl (Hd.load1 (by kernel_rfl) rfl (by repeat (first | exact List.mem_cons_self | apply List.mem_cons_of_mem | apply List.mem_append_right)) (by rfl) ⟨_, rfl, ?_⟩)
                  refine WL.y rfl (Yd.pickF rfl rfl) ?_
                  refine WL.y rfl (Yd.move rfl) ?_
                  refine WL.part (t := 53) rfl (fun hg53 => ?_) (fun hg53 => ?_)
                  · refine WL.gn (dj := 53) rfl rfl rfl rfl ?_
                    refine WL.gn (dj := 53) rfl rfl rfl rfl ?_
                    refine WL.gn (dj := 53) rfl rfl rfl rfl ?_
                    refine WL.y rfl (Yd.pickT rfl rfl) ?_
                    refine WL.y rfl (Yd.move rfl) ?_
                    refine WL.gn (dj := 58) rfl rfl rfl rfl ?_
                    refine WL.gn (dj := 58) rfl rfl rfl rfl ?_
                    refine WL.gn (dj := 58) rfl rfl rfl rfl ?_
                    refine WL.gn (dj := 58) rfl rfl rfl rfl ?_
                    refine WL.y rfl (Yd.pickT rfl rfl) ?_
                    refine WL.y rfl (Yd.move rfl) ?_
                    refine WL.gn (dj := 64) rfl rfl rfl rfl ?_
                    refine WL.gn (dj := 64) rfl rfl rfl rfl ?_
                    refine WL.gn (dj := 64) rfl rfl rfl rfl ?_
                    refine WL.gn (dj := 64) rfl rfl rfl rfl ?_
                    refine WL.y rfl (Yd.pickT rfl rfl) ?_
                    refine WL.y rfl (Yd.assign rfl) ?_
                    refine WL.nil ?_
                    exact DN.reachK (_) (by rw [Bool.eq_iff_iff]; simp only [moreB, Bool.or_eq_true, decide_eq_true_eq, true_iff]; first | omega | (simp only [*, Bool.false_eq_true, false_or, true_or, or_true]; omega) | (simp [*]; done) | (simp [*]; omega)) (Sx.put rfl ((by repeat (first | exact Sx.refl | refine Sx.skip rfl ?_)))) (Sp.all (by repeat (first | exact Sp.here | exact Sp.sn | exact Sp.s0 | exact Fr.here | apply Sp.s2 | apply Sp.sx | apply Fr.fc | apply Fr.al | apply Fr.fa | apply Sp.sc | apply Sp.al | apply Sp.sa)))
                  · refine WL.gy (dj := 53) rfl rfl rfl (Yd.fieldAddr (k := 8) (by kernel_rfl) rfl) ?_
                    refine WL.gh (dj := 53) rfl rfl rfl (Hd.load1 (by kernel_rfl) rfl (by repeat (first | exact List.mem_cons_self | apply List.mem_cons_of_mem | apply List.mem_append_right)) (by rfl) ⟨_, rfl, ?_⟩)
                    refine WL.gy (dj := 53) rfl rfl rfl (Yd.neq rfl rfl) ?_
                    refine WL.y rfl (Yd.pickF rfl rfl) ?_
                    refine WL.y rfl (Yd.move rfl) ?_
                    refine WL.partP (t := 58) rfl (fun hg58 => ?_) (fun hg58 => ?_)
                    · refine WL.gn (dj := 58) rfl rfl rfl rfl ?_
                      refine WL.gn (dj := 58) rfl rfl rfl rfl ?_
                      refine WL.gn (dj := 58) rfl rfl rfl rfl ?_
                      refine WL.gn (dj := 58) rfl rfl rfl rfl ?_
                      refine WL.y rfl (Yd.pickT rfl rfl) ?_
                      refine WL.y rfl (Yd.move rfl) ?_
                      refine WL.gn (dj := 64) rfl rfl rfl rfl ?_
                      refine WL.gn (dj := 64) rfl rfl rfl rfl ?_
                      refine WL.gn (dj := 64) rfl rfl rfl rfl ?_
                      refine WL.gn (dj := 64) rfl rfl rfl rfl ?_
                      refine WL.y rfl (Yd.pickT rfl rfl) ?_
                      refine WL.y rfl (Yd.assign rfl) ?_
                      refine WL.nil ?_
                      exact DN.reachK (_) (by rw [Bool.eq_iff_iff]; simp only [moreB, Bool.or_eq_true, decide_eq_true_eq, true_iff]; first | omega | (simp only [*, Bool.false_eq_true, false_or, true_or, or_true]; omega) | (simp [*]; done) | (simp [*]; omega)) (Sx.put rfl ((by repeat (first | exact Sx.refl | refine Sx.skip rfl ?_)))) (Sp.all (by repeat (first | exact Sp.here | exact Sp.sn | exact Sp.s0 | exact Fr.here | apply Sp.s2 | apply Sp.sx | apply Fr.fc | apply Fr.al | apply Fr.fa | apply Sp.sc | apply Sp.al | apply Sp.sa)))
                    · refine WL.gy (dj := 58) rfl rfl rfl (Yd.fieldAddr (k := 9) (by kernel_rfl) rfl) ?_
                      refine WL.gh (dj := 58) rfl rfl rfl (Hd.load1 (by kernel_rfl) rfl (by repeat (first | exact List.mem_cons_self | apply List.mem_cons_of_mem | apply List.mem_append_right)) (by rfl) ⟨_, rfl, ?_⟩)
                      refine WL.gy (dj := 58) rfl rfl rfl (Yd.len (e := 5) (by kernel_rfl) rfl) ?_
                      refine WL.gy (dj := 58) rfl rfl rfl (Yd.gtr rfl rfl) ?_
                      refine WL.y rfl (Yd.pickF rfl rfl) ?_
                      refine WL.y rfl (Yd.move rfl) ?_
                      refine WL.partP (t := 64) rfl (fun hg64 => ?_) (fun hg64 => ?_)
                      · refine WL.gn (dj := 64) rfl rfl rfl rfl ?_
                        refine WL.gn (dj := 64) rfl rfl rfl rfl ?_
                        refine WL.gn (dj := 64) rfl rfl rfl rfl ?_
                        refine WL.gn (dj := 64) rfl rfl rfl rfl ?_
                        refine WL.y rfl (Yd.pickT rfl rfl) ?_
                        refine WL.y rfl (Yd.assign rfl) ?_
                        refine WL.nil ?_
                        exact DN.reachK (_) (by rw [Bool.eq_iff_iff]; simp only [moreB, Bool.or_eq_true, decide_eq_true_eq, true_iff]; first | omega | (simp only [*, Bool.false_eq_true, false_or, true_or, or_true]; omega) | (simp [*]; done) | (simp [*]; omega)) (Sx.put rfl ((by repeat (first | exact Sx.refl | refine Sx.skip rfl ?_)))) (Sp.all (by repeat (first | exact Sp.here | exact Sp.sn | exact Sp.s0 | exact Fr.here | apply Sp.s2 | apply Sp.sx | apply Fr.fc | apply Fr.al | apply Fr.fa | apply Sp.sc | apply Sp.al | apply Sp.sa)))
                      · refine WL.gy (dj := 64) rfl rfl rfl (Yd.fieldAddr (k := 10) (by kernel_rfl) rfl) ?_
                        refine WL.gh (dj := 64) rfl rfl rfl (Hd.load1 (by kernel_rfl) rfl (by repeat (first | exact List.mem_cons_self | apply List.mem_cons_of_mem | apply List.mem_append_right)) (by rfl) ⟨_, rfl, ?_⟩)
                        refine WL.gy (dj := 64) rfl rfl rfl (Yd.len (e := 5) (by kernel_rfl) rfl) ?_
                        refine WL.gy (dj := 64) rfl rfl rfl (Yd.gtr rfl rfl) ?_
                        refine WL.y rfl (Yd.pickF rfl rfl) ?_
                        refine WL.y rfl (Yd.assign rfl) ?_
                        refine WL.nil ?_
                        exact DN.reachK (_) (by rw [Bool.eq_iff_iff]; simp only [moreB, Bool.or_eq_true, decide_eq_true_eq, true_iff]; first | omega | (simp only [*, Bool.false_eq_true, false_or, true_or, or_true]; omega) | (simp [*]; done) | (simp [*]; omega)) (Sx.put rfl ((by repeat (first | exact Sx.refl | refine Sx.skip rfl ?_)))) (Sp.all (by repeat (first | exact Sp.here | exact Sp.sn | exact Sp.s0 | exact Fr.here | apply Sp.s2 | apply Sp.sx | apply Fr.fc | apply Fr.al | apply Fr.fa | apply Sp.sc | apply Sp.al | apply Sp.sa)))
    · intro z7 hz7
      refine WC.cutK (fun z : Bool => z = farB n) (fun z : Bool => [(8, .bool z)]) (fun z : Bool => row b4 (ntc (rest n) (.slice mo (rest n).key.length mc) (.slice oo (rest n).data.length oc)) 29 :: ⟨b14, .stringIter (nmS n.kind) (nm n.kind).length, true⟩ :: row b1 (ntc n (.slice ko n.key.length kc) (.slice eo n.data.length ec)) 29 :: H) ?_ ?_
      · refine WC.region ?_
        refine WL.y rfl (Yd.fieldAddr (k := 6) (by kernel_rfl) rfl) ?_
        refine WL.h rfl (Hd.load1 (by kernel_rfl) rfl (by repeat (first | exact List.mem_cons_self | apply List.mem_cons_of_mem | apply List.mem_append_right)) (by rfl) ⟨_, rfl, ?_⟩)
        refine WL.y rfl (Yd.lss rfl rfl) ?_
        refine WL.y rfl (Yd.move rfl) ?_
        refine WL.partP (t := 73) rfl (fun hg73 => ?_) (fun hg73 => ?_)
        · refine WL.gn (dj := 73) rfl rfl rfl rfl ?_
          refine WL.gn (dj := 73) rfl rfl rfl rfl ?_
          refine WL.gn (dj := 73) rfl rfl rfl rfl ?_
          refine WL.y rfl (Yd.pickT rfl rfl) ?_
          refine WL.y rfl (Yd.move rfl) ?_
          refine WL.gn (dj := 78) rfl rfl rfl rfl ?_
          refine WL.gn (dj := 78) rfl rfl rfl rfl ?_
          refine WL.gn (dj := 78) rfl rfl rfl rfl ?_
          refine WL.y rfl (Yd.pickT rfl rfl) ?_
          refine WL.y rfl (Yd.move rfl) ?_
          refine WL.gn (dj := 83) rfl rfl rfl rfl ?_
          refine WL.gn (dj := 83) rfl rfl rfl rfl ?_
          refine WL.gn (dj := 83) rfl rfl rfl rfl ?_
          refine WL.y rfl (Yd.pickT rfl rfl) ?_
          refine WL.y rfl (Yd.move rfl) ?_
          refine WL.gn (dj := 88) rfl rfl rfl rfl ?_
          refine WL.gn (dj := 88) rfl rfl rfl rfl ?_
          refine WL.gn (dj := 88) rfl rfl rfl rfl ?_
          refine WL.gn (dj := 88) rfl rfl rfl rfl ?_
          refine WL.y rfl (Yd.pickT rfl rfl) ?_
          refine WL.y rfl (Yd.move rfl) ?_
          refine WL.gn (dj := 94) rfl rfl rfl rfl ?_
          refine WL.gn (dj := 94) rfl rfl rfl rfl ?_
          refine WL.gn (dj := 94) rfl rfl rfl rfl ?_
          refine WL.gn (dj := 94) rfl rfl rfl rfl ?_
          refine WL.y rfl (Yd.pickT rfl rfl) ?_
          refine WL.y rfl (Yd.assign rfl) ?_
          refine WL.nil ?_
          exact DN.reachK (_) (by rw [Bool.eq_iff_iff]; simp only [farB, Bool.or_eq_true, decide_eq_true_eq, true_iff]; omega) (Sx.put rfl ((by repeat (first | exact Sx.refl | refine Sx.skip rfl ?_)))) (Sp.all (by repeat (first | exact Sp.here | exact Sp.sn | exact Sp.s0 | exact Fr.here | apply Sp.s2 | apply Sp.sx | apply Fr.fc | apply Fr.al | apply Fr.fa | apply Sp.sc | apply Sp.al | apply Sp.sa)))
        · refine WL.gy (dj := 73) rfl rfl rfl (Yd.fieldAddr (k := 6) (by kernel_rfl) rfl) ?_
          refine WL.gh (dj := 73) rfl rfl rfl (Hd.load1 (by kernel_rfl) rfl (by repeat (first | exact List.mem_cons_self | apply List.mem_cons_of_mem | apply List.mem_append_right)) (by rfl) ⟨_, rfl, ?_⟩)
          refine WL.gy (dj := 73) rfl rfl rfl (Yd.geq rfl rfl) ?_
          refine WL.y rfl (Yd.pickF rfl rfl) ?_
          refine WL.y rfl (Yd.move rfl) ?_
          refine WL.partP (t := 78) rfl (fun hg78 => ?_) (fun hg78 => ?_)
          · refine WL.gn (dj := 78) rfl rfl rfl rfl ?_
            refine WL.gn (dj := 78) rfl rfl rfl rfl ?_
            refine WL.gn (dj := 78) rfl rfl rfl rfl ?_
            refine WL.y rfl (Yd.pickT rfl rfl) ?_
            refine WL.y rfl (Yd.move rfl) ?_
            refine WL.gn (dj := 83) rfl rfl rfl rfl ?_
            refine WL.gn (dj := 83) rfl rfl rfl rfl ?_
            refine WL.gn (dj := 83) rfl rfl rfl rfl ?_
            refine WL.y rfl (Yd.pickT rfl rfl) ?_
            refine WL.y rfl (Yd.move rfl) ?_
            refine WL.gn (dj := 88) rfl rfl rfl rfl ?_
            refine WL.gn (dj := 88) rfl rfl rfl rfl ?_
            refine WL.gn (dj := 88) rfl rfl rfl rfl ?_
            refine WL.gn (dj := 88) rfl rfl rfl rfl ?_
            refine WL.y rfl (Yd.pickT rfl rfl) ?_
            refine WL.y rfl (Yd.move rfl) ?_
            refine WL.gn (dj := 94) rfl rfl rfl rfl ?_
            refine WL.gn (dj := 94) rfl rfl rfl rfl ?_
            refine WL.gn (dj := 94) rfl rfl rfl rfl ?_
            refine WL.gn (dj := 94) rfl rfl rfl rfl ?_
            refine WL.y rfl (Yd.pickT rfl rfl) ?_
            refine WL.y rfl (Yd.assign rfl) ?_
            refine WL.nil ?_
            exact DN.reachK (_) (by rw [Bool.eq_iff_iff]; simp only [farB, Bool.or_eq_true, decide_eq_true_eq, true_iff]; omega) (Sx.put rfl ((by repeat (first | exact Sx.refl | refine Sx.skip rfl ?_)))) (Sp.all (by repeat (first | exact Sp.here | exact Sp.sn | exact Sp.s0 | exact Fr.here | apply Sp.s2 | apply Sp.sx | apply Fr.fc | apply Fr.al | apply Fr.fa | apply Sp.sc | apply Sp.al | apply Sp.sa)))
          · refine WL.gy (dj := 78) rfl rfl rfl (Yd.fieldAddr (k := 8) (by kernel_rfl) rfl) ?_
            refine WL.gh (dj := 78) rfl rfl rfl (Hd.load1 (by kernel_rfl) rfl (by repeat (first | exact List.mem_cons_self | apply List.mem_cons_of_mem | apply List.mem_append_right)) (by rfl) ⟨_, rfl, ?_⟩)
            refine WL.gy (dj := 78) rfl rfl rfl (Yd.lss rfl rfl) ?_
            refine WL.y rfl (Yd.pickF rfl rfl) ?_
            refine WL.y rfl (Yd.move rfl) ?_
            refine WL.partP (t := 83) rfl (fun hg83 => ?_) (fun hg83 => ?_)
            · refine WL.gn (dj := 83) rfl rfl rfl rfl ?_
              refine WL.gn (dj := 83) rfl rfl rfl rfl ?_
              refine WL.gn (dj := 83) rfl rfl rfl rfl ?_
              refine WL.y rfl (Yd.pickT rfl rfl) ?_
              refine WL.y rfl (Yd.move rfl) ?_
              refine WL.gn (dj := 88) rfl rfl rfl rfl ?_
              refine WL.gn (dj := 88) rfl rfl rfl rfl ?_
              refine WL.gn (dj := 88) rfl rfl rfl rfl ?_
              refine WL.gn (dj := 88) rfl rfl rfl rfl ?_
              refine WL.y rfl (Yd.pickT rfl rfl) ?_
              refine WL.y rfl (Yd.move rfl) ?_
              refine WL.gn (dj := 94) rfl rfl rfl rfl ?_
              refine WL.gn (dj := 94) rfl rfl rfl rfl ?_
              refine WL.gn (dj := 94) rfl rfl rfl rfl ?_
              refine WL.gn (dj := 94) rfl rfl rfl rfl ?_
              refine WL.y rfl (Yd.pickT rfl rfl) ?_
              refine WL.y rfl (Yd.assign rfl) ?_
              refine WL.nil ?_
              exact DN.reachK (_) (by rw [Bool.eq_iff_iff]; simp only [farB, Bool.or_eq_true, decide_eq_true_eq, true_iff]; omega) (Sx.put rfl ((by repeat (first | exact Sx.refl | refine Sx.skip rfl ?_)))) (Sp.all (by repeat (first | exact Sp.here | exact Sp.sn | exact Sp.s0 | exact Fr.here | apply Sp.s2 | apply Sp.sx | apply Fr.fc | apply Fr.al | apply Fr.fa | apply Sp.sc | apply Sp.al | apply Sp.sa)))
            · refine WL.gy (dj := 83) rfl rfl rfl (Yd.fieldAddr (k := 8) (by kernel_rfl) rfl) ?_
              refine WL.gh (dj := 83) rfl rfl rfl (Hd.load1 (by kernel_rfl) rfl (by repeat (first | exact List.mem_cons_self | apply List.mem_cons_of_mem | apply List.mem_append_right)) (by rfl) ⟨_, rfl, ?_⟩)
              refine WL.gy (dj := 83) rfl rfl rfl (Yd.gtr rfl rfl) ?_
              refine WL.y rfl (Yd.pickF rfl rfl) ?_
              refine WL.y rfl (Yd.move rfl) ?_
              refine WL.partP (t := 88) rfl (fun hg88 => ?_) (fun hg88 => ?_)
              · refine WL.gn (dj := 88) rfl rfl rfl rfl ?_
                refine WL.gn (dj := 88) rfl rfl rfl rfl ?_
                refine WL.gn (dj := 88) rfl rfl rfl rfl ?_
                refine WL.gn (dj := 88) rfl rfl rfl rfl ?_
                refine WL.y rfl (Yd.pickT rfl rfl) ?_
                refine WL.y rfl (Yd.move rfl) ?_
                refine WL.gn (dj := 94) rfl rfl rfl rfl ?_
                refine WL.gn (dj := 94) rfl rfl rfl rfl ?_
                refine WL.gn (dj := 94) rfl rfl rfl rfl ?_
                refine WL.gn (dj := 94) rfl rfl rfl rfl ?_
                refine WL.y rfl (Yd.pickT rfl rfl) ?_
                refine WL.y rfl (Yd.assign rfl) ?_
                refine WL.nil ?_
                exact DN.reachK (_) (by rw [Bool.eq_iff_iff]; simp only [farB, Bool.or_eq_true, decide_eq_true_eq, true_iff]; omega) (Sx.put rfl ((by repeat (first | exact Sx.refl | refine Sx.skip rfl ?_)))) (Sp.all (by repeat (first | exact Sp.here | exact Sp.sn | exact Sp.s0 | exact Fr.here | apply Sp.s2 | apply Sp.sx | apply Fr.fc | apply Fr.al | apply Fr.fa | apply Sp.sc | apply Sp.al | apply Sp.sa)))
              · refine WL.gy (dj := 88) rfl rfl rfl (Yd.fieldAddr (k := 9) (by kernel_rfl) rfl) ?_
                refine WL.gh (dj := 88) rfl rfl rfl (Hd.load1 (by kernel_rfl) rfl (by repeat (first | exact List.mem_cons_self | apply List.mem_cons_of_mem | apply List.mem_append_right)) (by rfl) ⟨_, rfl, ?_⟩)
                refine WL.gy (dj := 88) rfl rfl rfl (Yd.len (e := 5) (by kernel_rfl) rfl) ?_
                refine WL.gy (dj := 88) rfl rfl rfl (Yd.gtr rfl rfl) ?_
                refine WL.y rfl (Yd.pickF rfl rfl) ?_
                refine WL.y rfl (Yd.move rfl) ?_
                refine WL.partP (t := 94) rfl (fun hg94 => ?_) (fun hg94 => ?_)
                · refine WL.gn (dj := 94) rfl rfl rfl rfl ?_
                  refine WL.gn (dj := 94) rfl rfl rfl rfl ?_
                  refine WL.gn (dj := 94) rfl rfl rfl rfl ?_
                  refine WL.gn (dj := 94) rfl rfl rfl rfl ?_
                  refine WL.y rfl (Yd.pickT rfl rfl) ?_
                  refine WL.y rfl (Yd.assign rfl) ?_
                  refine WL.nil ?_
                  exact DN.reachK (_) (by rw [Bool.eq_iff_iff]; simp only [farB, Bool.or_eq_true, decide_eq_true_eq, true_iff]; omega) (Sx.put rfl ((by repeat (first | exact Sx.refl | refine Sx.skip rfl ?_)))) (Sp.all (by repeat (first | exact Sp.here | exact Sp.sn | exact Sp.s0 | exact Fr.here | apply Sp.s2 | apply Sp.sx | apply Fr.fc | apply Fr.al | apply Fr.fa | apply Sp.sc | apply Sp.al | apply Sp.sa)))
                · refine WL.gy (dj := 94) rfl rfl rfl (Yd.fieldAddr (k := 10) (by kernel_rfl) rfl) ?_
                  refine WL.gh (dj := 94) rfl rfl rfl (Hd.load1 (by kernel_rfl) rfl (by repeat (first | exact List.mem_cons_self | apply List.mem_cons_of_mem | apply List.mem_append_right)) (by rfl) ⟨_, rfl, ?_⟩)
                  refine WL.gy (dj := 94) rfl rfl rfl (Yd.len (e := 5) (by kernel_rfl) rfl) ?_
                  refine WL.gy (dj := 94) rfl rfl rfl (Yd.gtr rfl rfl) ?_
                  refine WL.y rfl (Yd.pickF rfl rfl) ?_
                  refine WL.y rfl (Yd.assign rfl) ?_
                  refine WL.nil ?_
                  exact DN.reachK (_) (by rw [Bool.eq_iff_iff]; simp only [farB, Bool.or_eq_true, decide_eq_true_eq, true_iff]; omega) (Sx.put rfl ((by repeat (first | exact Sx.refl | refine Sx.skip rfl ?_)))) (Sp.all (by repeat (first | exact Sp.here | exact Sp.sn | exact Sp.s0 | exact Fr.here | apply Sp.s2 | apply Sp.sx | apply Fr.fc | apply Fr.al | apply Fr.fa | apply Sp.sc | apply Sp.al | apply Sp.sa)))
      · intro z8 hz8
        refine WC.seq ?_
        refine WC.seq ?_
        refine WC.region ?_
        refine WL.y rfl (Yd.move rfl) ?_
        refine WL.y rfl (Yd.eqlS rfl rfl) ?_
        refine WL.y rfl (Yd.move rfl) ?_
        refine WL.partP (t := 102) rfl (fun hg102 => ?_) (fun hg102 => ?_)
        · refine WL.gn (dj := 102) rfl rfl rfl rfl ?_
          refine WL.y rfl (Yd.pickT rfl rfl) ?_
          refine WL.y rfl (Yd.move rfl) ?_
          refine WL.gn (dj := 105) rfl rfl rfl rfl ?_
          refine WL.y rfl (Yd.pickT rfl rfl) ?_
          refine WL.y rfl (Yd.move rfl) ?_
          refine WL.gn (dj := 108) rfl rfl rfl rfl ?_
          refine WL.gn (dj := 108) rfl rfl rfl rfl ?_
          refine WL.gn (dj := 108) rfl rfl rfl rfl ?_
          refine WL.gn (dj := 108) rfl rfl rfl rfl ?_
          refine WL.gu (dj := 112) rfl rfl rfl ?_
          refine WL.gu (dj := 112) rfl rfl rfl ?_
          refine WL.gu (dj := 112) rfl rfl rfl ?_
          refine WL.gn (dj := 108) rfl rfl rfl rfl ?_
          refine WL.gn (dj := 108) rfl rfl rfl rfl ?_
          refine WL.gu (dj := 117) rfl rfl rfl ?_
          refine WL.gu (dj := 117) rfl rfl rfl ?_
          refine WL.gu (dj := 117) rfl rfl rfl ?_
          refine WL.gu (dj := 117) rfl rfl rfl ?_
          refine WL.gn (dj := 108) rfl rfl rfl rfl ?_
          refine WL.y rfl (Yd.pickT rfl rfl) ?_
          refine WL.nil ?_
          refine DN.then_normal ?_
          refine WC.yes rfl ?_
          refine WC.seq ?_
          refine WC.region ?_
          refine WL.y rfl (Yd.assign rfl) ?_
          refine WL.nil ?_
          refine DN.then_normal ?_
          refine WC.ret ?_
          refine DN.then_ret ?_
          refine DN.fit (C := H) (by repeat (first | exact Sp.here | exact Sp.sn | exact Sp.s0 | exact Fr.here | apply Sp.s2 | apply Sp.sx | apply Fr.fc | apply Fr.al | apply Fr.fa | apply Sp.sc | apply Sp.al | apply Sp.sa)) ?_
          refine DN.ret1 Try.results46 rfl ?_
          first
            | (have e : noteBad n = true := by
                simp only [noteBad, Bool.or_eq_true, Bool.and_eq_true, decide_eq_true_eq, ← hz7, ← hz8, ← nmS_empty]
                first | exact .inl hg102 | exact .inr (.inl hg105) | exact .inr (.inr (.inl hg108)) | exact .inr (.inr (.inr ⟨hg112, hg117, h123⟩))
               exact ⟨by rw [e]; rfl, rfl⟩)
            | (have e : noteBad n = false := by
                rw [Bool.eq_false_iff]
                intro h
                simp only [noteBad, Bool.or_eq_true, Bool.and_eq_true, decide_eq_true_eq, ← hz7, ← hz8, ← nmS_empty] at h
                rcases h with h | h | h | ⟨h1, h2, h3⟩
                · exact hg102 h
                · rw [hg105] at h; cases h
                · rw [hg108] at h; cases h
                · omega
               exact ⟨by rw [e]; rfl, rfl⟩)
        · refine WL.gy (dj := 102) rfl rfl rfl (Yd.move rfl) ?_
          refine WL.y rfl (Yd.pickF rfl rfl) ?_
          refine WL.y rfl (Yd.move rfl) ?_
          refine WL.part (t := 105) rfl (fun hg105 => ?_) (fun hg105 => ?_)
          · refine WL.gn (dj := 105) rfl rfl rfl rfl ?_
            refine WL.y rfl (Yd.pickT rfl rfl) ?_
            refine WL.y rfl (Yd.move rfl) ?_
            refine WL.gn (dj := 108) rfl rfl rfl rfl ?_
            refine WL.gn (dj := 108) rfl rfl rfl rfl ?_
            refine WL.gn (dj := 108) rfl rfl rfl rfl ?_
            refine WL.gn (dj := 108) rfl rfl rfl rfl ?_
            refine WL.gu (dj := 112) rfl rfl rfl ?_
            refine WL.gu (dj := 112) rfl rfl rfl ?_
            refine WL.gu (dj := 112) rfl rfl rfl ?_
            refine WL.gn (dj := 108) rfl rfl rfl rfl ?_
            refine WL.gn (dj := 108) rfl rfl rfl rfl ?_
            refine WL.gu (dj := 117) rfl rfl rfl ?_
            refine WL.gu (dj := 117) rfl rfl rfl ?_
            refine WL.gu (dj := 117) rfl rfl rfl ?_
            refine WL.gu (dj := 117) rfl rfl rfl ?_
            refine WL.gn (dj := 108) rfl rfl rfl rfl ?_
            refine WL.y rfl (Yd.pickT rfl rfl) ?_
            refine WL.nil ?_
            refine DN.then_normal ?_
            refine WC.yes rfl ?_
            refine WC.seq ?_
            refine WC.region ?_
            refine WL.y rfl (Yd.assign rfl) ?_
            refine WL.nil ?_
            refine DN.then_normal ?_
            refine WC.ret ?_
            refine DN.then_ret ?_
            refine DN.fit (C := H) (by repeat (first | exact Sp.here | exact Sp.sn | exact Sp.s0 | exact Fr.here | apply Sp.s2 | apply Sp.sx | apply Fr.fc | apply Fr.al | apply Fr.fa | apply Sp.sc | apply Sp.al | apply Sp.sa)) ?_
            refine DN.ret1 Try.results46 rfl ?_
            first
              | (have e : noteBad n = true := by
                  simp only [noteBad, Bool.or_eq_true, Bool.and_eq_true, decide_eq_true_eq, ← hz7, ← hz8, ← nmS_empty]
                  first | exact .inl hg102 | exact .inr (.inl hg105) | exact .inr (.inr (.inl hg108)) | exact .inr (.inr (.inr ⟨hg112, hg117, h123⟩))
                 exact ⟨by rw [e]; rfl, rfl⟩)
              | (have e : noteBad n = false := by
                  rw [Bool.eq_false_iff]
                  intro h
                  simp only [noteBad, Bool.or_eq_true, Bool.and_eq_true, decide_eq_true_eq, ← hz7, ← hz8, ← nmS_empty] at h
                  rcases h with h | h | h | ⟨h1, h2, h3⟩
                  · exact hg102 h
                  · rw [hg105] at h; cases h
                  · rw [hg108] at h; cases h
                  · omega
                 exact ⟨by rw [e]; rfl, rfl⟩)
          · refine WL.gy (dj := 105) rfl rfl rfl (Yd.move rfl) ?_
            refine WL.y rfl (Yd.pickF rfl rfl) ?_
            refine WL.y rfl (Yd.move rfl) ?_
            refine WL.part (t := 108) rfl (fun hg108 => ?_) (fun hg108 => ?_)
            · refine WL.gn (dj := 108) rfl rfl rfl rfl ?_
              refine WL.gn (dj := 108) rfl rfl rfl rfl ?_
              refine WL.gn (dj := 108) rfl rfl rfl rfl ?_
              refine WL.gn (dj := 108) rfl rfl rfl rfl ?_
              refine WL.gu (dj := 112) rfl rfl rfl ?_
              refine WL.gu (dj := 112) rfl rfl rfl ?_
              refine WL.gu (dj := 112) rfl rfl rfl ?_
              refine WL.gn (dj := 108) rfl rfl rfl rfl ?_
              refine WL.gn (dj := 108) rfl rfl rfl rfl ?_
              refine WL.gu (dj := 117) rfl rfl rfl ?_
              refine WL.gu (dj := 117) rfl rfl rfl ?_
              refine WL.gu (dj := 117) rfl rfl rfl ?_
              refine WL.gu (dj := 117) rfl rfl rfl ?_
              refine WL.gn (dj := 108) rfl rfl rfl rfl ?_
              refine WL.y rfl (Yd.pickT rfl rfl) ?_
              refine WL.nil ?_
              refine DN.then_normal ?_
              refine WC.yes rfl ?_
              refine WC.seq ?_
              refine WC.region ?_
              refine WL.y rfl (Yd.assign rfl) ?_
              refine WL.nil ?_
              refine DN.then_normal ?_
              refine WC.ret ?_
              refine DN.then_ret ?_
              refine DN.fit (C := H) (by repeat (first | exact Sp.here | exact Sp.sn | exact Sp.s0 | exact Fr.here | apply Sp.s2 | apply Sp.sx | apply Fr.fc | apply Fr.al | apply Fr.fa | apply Sp.sc | apply Sp.al | apply Sp.sa)) ?_
              refine DN.ret1 Try.results46 rfl ?_
              first
                | (have e : noteBad n = true := by
                    simp only [noteBad, Bool.or_eq_true, Bool.and_eq_true, decide_eq_true_eq, ← hz7, ← hz8, ← nmS_empty]
                    first | exact .inl hg102 | exact .inr (.inl hg105) | exact .inr (.inr (.inl hg108)) | exact .inr (.inr (.inr ⟨hg112, hg117, h123⟩))
                   exact ⟨by rw [e]; rfl, rfl⟩)
                | (have e : noteBad n = false := by
                    rw [Bool.eq_false_iff]
                    intro h
                    simp only [noteBad, Bool.or_eq_true, Bool.and_eq_true, decide_eq_true_eq, ← hz7, ← hz8, ← nmS_empty] at h
                    rcases h with h | h | h | ⟨h1, h2, h3⟩
                    · exact hg102 h
                    · rw [hg105] at h; cases h
                    · rw [hg108] at h; cases h
                    · omega
                   exact ⟨by rw [e]; rfl, rfl⟩)
            · refine WL.gy (dj := 108) rfl rfl rfl (Yd.fieldAddr (k := 0) (by kernel_rfl) rfl) ?_
              refine WL.gh (dj := 108) rfl rfl rfl (Hd.load1 (by kernel_rfl) rfl (by repeat (first | exact List.mem_cons_self | apply List.mem_cons_of_mem | apply List.mem_append_right)) (by rfl) ⟨_, rfl, ?_⟩)
              refine WL.gy (dj := 108) rfl rfl rfl (Yd.geq rfl rfl) ?_
              refine WL.gy (dj := 108) rfl rfl rfl (Yd.move rfl) ?_
              refine WL.partP (t := 112) rfl (fun hg112 => ?_) (fun hg112 => ?_)
              · refine WL.gy (dj := 112) rfl rfl rfl (Yd.fieldAddr (k := 0) (by kernel_rfl) rfl) ?_
                refine WL.gh (dj := 112) rfl rfl rfl (Hd.load1 (by kernel_rfl) rfl (by repeat (first | exact List.mem_cons_self | apply List.mem_cons_of_mem | apply List.mem_append_right)) (by rfl) ⟨_, rfl, ?_⟩)
                refine WL.gy (dj := 112) rfl rfl rfl (Yd.leq rfl rfl) ?_
                refine WL.gy (dj := 108) rfl rfl rfl (Yd.pickT rfl rfl) ?_
                refine WL.gy (dj := 108) rfl rfl rfl (Yd.move rfl) ?_
                refine WL.partP (t := 117) rfl (fun hg117 => ?_) (fun hg117 => ?_)
                · refine WL.gy (dj := 117) rfl rfl rfl (Yd.fieldAddr (k := 9) (by kernel_rfl) rfl) ?_
                  refine WL.gh (dj := 117) rfl rfl rfl (Hd.load1 (by kernel_rfl) rfl (by repeat (first | exact List.mem_cons_self | apply List.mem_cons_of_mem | apply List.mem_append_right)) (by rfl) ⟨_, rfl, ?_⟩)
                  refine WL.gy (dj := 117) rfl rfl rfl (Yd.len (e := 5) (by kernel_rfl) rfl) ?_
                  refine WL.gy (dj := 117) rfl rfl rfl (Yd.eql rfl rfl) ?_
                  refine WL.gy (dj := 108) rfl rfl rfl (Yd.pickT rfl rfl) ?_
                  refine WL.y rfl (Yd.pickF rfl rfl) ?_
                  refine WL.nil ?_
                  refine DN.then_normal ?_
                  refine WC.ite rfl (fun h123 => ?_) (fun h123 => ?_)
                  · refine WC.seq ?_
                    refine WC.region ?_
                    refine WL.y rfl (Yd.assign rfl) ?_
                    refine WL.nil ?_
                    refine DN.then_normal ?_
                    refine WC.ret ?_
                    refine DN.then_ret ?_
                    refine DN.fit (C := H) (by repeat (first | exact Sp.here | exact Sp.sn | exact Sp.s0 | exact Fr.here | apply Sp.s2 | apply Sp.sx | apply Fr.fc | apply Fr.al | apply Fr.fa | apply Sp.sc | apply Sp.al | apply Sp.sa)) ?_
                    refine DN.ret1 Try.results46 rfl ?_
                    first
                      | (have e : noteBad n = true := by
                          simp only [noteBad, Bool.or_eq_true, Bool.and_eq_true, decide_eq_true_eq, ← hz7, ← hz8, ← nmS_empty]
                          first | exact .inl hg102 | exact .inr (.inl hg105) | exact .inr (.inr (.inl hg108)) | exact .inr (.inr (.inr ⟨hg112, hg117, h123⟩))
                         exact ⟨by rw [e]; rfl, rfl⟩)
                      | (have e : noteBad n = false := by
                          rw [Bool.eq_false_iff]
                          intro h
                          simp only [noteBad, Bool.or_eq_true, Bool.and_eq_true, decide_eq_true_eq, ← hz7, ← hz8, ← nmS_empty] at h
                          rcases h with h | h | h | ⟨h1, h2, h3⟩
                          · exact hg102 h
                          · rw [hg105] at h; cases h
                          · rw [hg108] at h; cases h
                          · omega
                         exact ⟨by rw [e]; rfl, rfl⟩)
                  · refine WC.skip ?_
                    refine DN.then_normal ?_
                    refine WC.seq ?_
                    refine WC.region ?_
                    refine WL.y rfl (Yd.assign rfl) ?_
                    refine WL.nil ?_
                    refine DN.then_normal ?_
                    refine WC.ret ?_
                    refine DN.fit (C := H) (by repeat (first | exact Sp.here | exact Sp.sn | exact Sp.s0 | exact Fr.here | apply Sp.s2 | apply Sp.sx | apply Fr.fc | apply Fr.al | apply Fr.fa | apply Sp.sc | apply Sp.al | apply Sp.sa)) ?_
                    refine DN.ret1 Try.results46 rfl ?_
                    first
                      | (have e : noteBad n = true := by
                          simp only [noteBad, Bool.or_eq_true, Bool.and_eq_true, decide_eq_true_eq, ← hz7, ← hz8, ← nmS_empty]
                          first | exact .inl hg102 | exact .inr (.inl hg105) | exact .inr (.inr (.inl hg108)) | exact .inr (.inr (.inr ⟨hg112, hg117, h123⟩))
                         exact ⟨by rw [e]; rfl, rfl⟩)
                      | (have e : noteBad n = false := by
                          rw [Bool.eq_false_iff]
                          intro h
                          simp only [noteBad, Bool.or_eq_true, Bool.and_eq_true, decide_eq_true_eq, ← hz7, ← hz8, ← nmS_empty] at h
                          rcases h with h | h | h | ⟨h1, h2, h3⟩
                          · exact hg102 h
                          · rw [hg105] at h; cases h
                          · rw [hg108] at h; cases h
                          · omega
                         exact ⟨by rw [e]; rfl, rfl⟩)
                · refine WL.gn (dj := 117) rfl rfl rfl rfl ?_
                  refine WL.gn (dj := 117) rfl rfl rfl rfl ?_
                  refine WL.gn (dj := 117) rfl rfl rfl rfl ?_
                  refine WL.gn (dj := 117) rfl rfl rfl rfl ?_
                  refine WL.gy (dj := 108) rfl rfl rfl (Yd.pickF rfl rfl) ?_
                  refine WL.y rfl (Yd.pickF rfl rfl) ?_
                  refine WL.nil ?_
                  refine DN.then_normal ?_
                  refine WC.no rfl ?_
                  refine WC.skip ?_
                  refine DN.then_normal ?_
                  refine WC.seq ?_
                  refine WC.region ?_
                  refine WL.y rfl (Yd.assign rfl) ?_
                  refine WL.nil ?_
                  refine DN.then_normal ?_
                  refine WC.ret ?_
                  refine DN.fit (C := H) (by repeat (first | exact Sp.here | exact Sp.sn | exact Sp.s0 | exact Fr.here | apply Sp.s2 | apply Sp.sx | apply Fr.fc | apply Fr.al | apply Fr.fa | apply Sp.sc | apply Sp.al | apply Sp.sa)) ?_
                  refine DN.ret1 Try.results46 rfl ?_
                  first
                    | (have e : noteBad n = true := by
                        simp only [noteBad, Bool.or_eq_true, Bool.and_eq_true, decide_eq_true_eq, ← hz7, ← hz8, ← nmS_empty]
                        first | exact .inl hg102 | exact .inr (.inl hg105) | exact .inr (.inr (.inl hg108)) | exact .inr (.inr (.inr ⟨hg112, hg117, h123⟩))
                       exact ⟨by rw [e]; rfl, rfl⟩)
                    | (have e : noteBad n = false := by
                        rw [Bool.eq_false_iff]
                        intro h
                        simp only [noteBad, Bool.or_eq_true, Bool.and_eq_true, decide_eq_true_eq, ← hz7, ← hz8, ← nmS_empty] at h
                        rcases h with h | h | h | ⟨h1, h2, h3⟩
                        · exact hg102 h
                        · rw [hg105] at h; cases h
                        · rw [hg108] at h; cases h
                        · omega
                       exact ⟨by rw [e]; rfl, rfl⟩)
              · refine WL.gn (dj := 112) rfl rfl rfl rfl ?_
                refine WL.gn (dj := 112) rfl rfl rfl rfl ?_
                refine WL.gn (dj := 112) rfl rfl rfl rfl ?_
                refine WL.gy (dj := 108) rfl rfl rfl (Yd.pickF rfl rfl) ?_
                refine WL.gy (dj := 108) rfl rfl rfl (Yd.move rfl) ?_
                refine WL.gn (dj := 117) rfl rfl rfl rfl ?_
                refine WL.gn (dj := 117) rfl rfl rfl rfl ?_
                refine WL.gn (dj := 117) rfl rfl rfl rfl ?_
                refine WL.gn (dj := 117) rfl rfl rfl rfl ?_
                refine WL.gy (dj := 108) rfl rfl rfl (Yd.pickF rfl rfl) ?_
                refine WL.y rfl (Yd.pickF rfl rfl) ?_
                refine WL.nil ?_
                refine DN.then_normal ?_
                refine WC.no rfl ?_
                refine WC.skip ?_
                refine DN.then_normal ?_
                refine WC.seq ?_
                refine WC.region ?_
                refine WL.y rfl (Yd.assign rfl) ?_
                refine WL.nil ?_
                refine DN.then_normal ?_
                refine WC.ret ?_
                refine DN.fit (C := H) (by repeat (first | exact Sp.here | exact Sp.sn | exact Sp.s0 | exact Fr.here | apply Sp.s2 | apply Sp.sx | apply Fr.fc | apply Fr.al | apply Fr.fa | apply Sp.sc | apply Sp.al | apply Sp.sa)) ?_
                refine DN.ret1 Try.results46 rfl ?_
                first
                  | (have e : noteBad n = true := by
                      simp only [noteBad, Bool.or_eq_true, Bool.and_eq_true, decide_eq_true_eq, ← hz7, ← hz8, ← nmS_empty]
                      first | exact .inl hg102 | exact .inr (.inl hg105) | exact .inr (.inr (.inl hg108)) | exact .inr (.inr (.inr ⟨hg112, hg117, h123⟩))
                     exact ⟨by rw [e]; rfl, rfl⟩)
                  | (have e : noteBad n = false := by
                      rw [Bool.eq_false_iff]
                      intro h
                      simp only [noteBad, Bool.or_eq_true, Bool.and_eq_true, decide_eq_true_eq, ← hz7, ← hz8, ← nmS_empty] at h
                      rcases h with h | h | h | ⟨h1, h2, h3⟩
                      · exact hg102 h
                      · rw [hg105] at h; cases h
                      · rw [hg108] at h; cases h
                      · omega
                     exact ⟨by rw [e]; rfl, rfl⟩)

end Go.Proofs.Ytonnkgblligdkaa
