/-
  Lemmas and walks that CrewWorks stands on (part 4); no condition.
-/
import Derived.Orders
import Derived.Tactics
import Derived.Scope
import Derived.Below
import Derived.WalkKit
import Derived.KernelRfl
import Derived.Laws.RangeString
import Derived.Laws.StructEq
import Derived.Lib.AppendZerosOnto
import Derived.Laws.CopyRow
import Derived.Lib.Overlaps
import Derived.Laws.IdiomStrings
import Derived.Deep.Quiet
import Derived.Lib.Bytealg
import Derived.Shelf.SlSortCmp.NoneTotal
import Derived.ProofKit
import Derived.OpenShut
import Derived.ShutString
import Derived.ChangeOld
import Derived.Test.YtkamlondepceiaaGreatRows
import Derived.Ground.SlsfProg
import Derived.Shelf.Small.Strs
import Derived.Test.YtkamlondepceiaaGreatCrewWorksB3

set_option linter.unusedVariables false
set_option linter.unusedSimpArgs false
set_option maxHeartbeats 2000000
namespace Go.Proofs.YtkamlondepceiaaGreat
open Go.SL
theorem names_reads (k : Int) (H : List Ck) : Reads Tryz.prog 118 [.int .i64 k] H (.string (nmS k)) := by
 refine Tells.enter Tryz.func118 rfl Tryz.ntmps118 rfl ?_
 intro w0 R
 refine sr_ ?_
 refine a_ rfl rfl ?_
 refine nt_ ?_
 refine WC.seq ?_
 refine sr_ ?_
 refine m_ rfl rfl ?_
 refine nt_ ?_
 refine WC.block ?_
 refine sr_ ?_
 refine WL.y rfl (Yd.eql rfl rfl) ?_
 refine a_ rfl rfl ?_
 refine nt_ ?_
 refine WC.ite rfl (fun h4 => ?_) (fun h4 => ?_)
 ·refine sr_ ?_
  refine a_ rfl rfl ?_
  refine nt_ ?_
  refine WC.ret ?_
  refine DN.block_ret ?_
  refine DN.then_ret ?_
  refine DN.ret1 Tryz.results118 rfl ?_
  first | (exfalso; omega) | exact ⟨by congr 1; simp [nmS, nm, *], rfl⟩
 ·refine WC.seq ?_
  refine sr_ ?_
  refine WL.y rfl (Yd.eql rfl rfl) ?_
  refine a_ rfl rfl ?_
  refine nt_ ?_
  refine WC.ite rfl (fun h6 => ?_) (fun h6 => ?_)
  ·refine WC.skip ?_
   refine DN.then_normal ?_
   refine WC.ite rfl (fun h6 => ?_) (fun h6 => ?_)
   ·refine sr_ ?_
    refine a_ rfl rfl ?_
    refine nt_ ?_
    refine WC.ret ?_
    refine DN.block_ret ?_
    refine DN.then_ret ?_
    refine DN.ret1 Tryz.results118 rfl ?_
    first | (exfalso; omega) | exact ⟨by congr 1; simp [nmS, nm, *], rfl⟩
   ·refine WC.seq ?_
    refine sr_ ?_
    refine WL.y rfl (Yd.eql rfl rfl) ?_
    refine a_ rfl rfl ?_
    refine nt_ ?_
    refine WC.ite rfl (fun h9 => ?_) (fun h9 => ?_)
    ·refine WC.skip ?_
     refine DN.then_normal ?_
     refine WC.ite rfl (fun h9 => ?_) (fun h9 => ?_)
     ·refine sr_ ?_
      refine a_ rfl rfl ?_
      refine nt_ ?_
      refine WC.ret ?_
      refine DN.block_ret ?_
      refine DN.then_ret ?_
      refine DN.ret1 Tryz.results118 rfl ?_
      first | (exfalso; omega) | exact ⟨by congr 1; simp [nmS, nm, *], rfl⟩
     ·refine sr_ ?_
      refine WL.y rfl (Yd.eql rfl rfl) ?_
      refine a_ rfl rfl ?_
      refine nt_ ?_
      refine WC.ite rfl (fun h12 => ?_) (fun h12 => ?_)
      ·refine sr_ ?_
       refine a_ rfl rfl ?_
       refine nt_ ?_
       refine WC.ret ?_
       refine DN.block_ret ?_
       refine DN.then_ret ?_
       refine DN.ret1 Tryz.results118 rfl ?_
       first | (exfalso; omega) | exact ⟨by congr 1; simp [nmS, nm, *], rfl⟩
      ·refine sr_ ?_
       refine WL.y rfl (Yd.eql rfl rfl) ?_
       refine a_ rfl rfl ?_
       refine nt_ ?_
       refine WC.ite rfl (fun h14 => ?_) (fun h14 => ?_)
       ·refine sr_ ?_
        refine a_ rfl rfl ?_
        refine nt_ ?_
        refine WC.ret ?_
        refine DN.block_ret ?_
        refine DN.then_ret ?_
        refine DN.ret1 Tryz.results118 rfl ?_
        first | (exfalso; omega) | exact ⟨by congr 1; simp [nmS, nm, *], rfl⟩
       ·refine sr_ ?_
        refine WL.y rfl (Yd.eql rfl rfl) ?_
        refine a_ rfl rfl ?_
        refine nt_ ?_
        refine WC.ite rfl (fun h16 => ?_) (fun h16 => ?_)
        ·refine sr_ ?_
         refine a_ rfl rfl ?_
         refine nt_ ?_
         refine WC.ret ?_
         refine DN.block_ret ?_
         refine DN.then_ret ?_
         refine DN.ret1 Tryz.results118 rfl ?_
         first | (exfalso; omega) | exact ⟨by congr 1; simp [nmS, nm, *], rfl⟩
        ·refine sr_ ?_
         refine WL.y rfl (Yd.eql rfl rfl) ?_
         refine a_ rfl rfl ?_
         refine nt_ ?_
         refine WC.ite rfl (fun h18 => ?_) (fun h18 => ?_)
         ·refine sr_ ?_
          refine a_ rfl rfl ?_
          refine nt_ ?_
          refine WC.ret ?_
          refine DN.block_ret ?_
          refine DN.then_ret ?_
          refine DN.ret1 Tryz.results118 rfl ?_
          first | (exfalso; omega) | exact ⟨by congr 1; simp [nmS, nm, *], rfl⟩
         ·refine sr_ ?_
          refine WL.y rfl (Yd.eql rfl rfl) ?_
          refine a_ rfl rfl ?_
          refine nt_ ?_
          refine WC.ite rfl (fun h20 => ?_) (fun h20 => ?_)
          ·refine sr_ ?_
           refine a_ rfl rfl ?_
           refine nt_ ?_
           refine WC.ret ?_
           refine DN.block_ret ?_
           refine DN.then_ret ?_
           refine DN.ret1 Tryz.results118 rfl ?_
           first | (exfalso; omega) | exact ⟨by congr 1; simp [nmS, nm, *], rfl⟩
          ·refine WC.seq ?_
           refine sr_ ?_
           refine WL.y rfl (Yd.eql rfl rfl) ?_
           refine a_ rfl rfl ?_
           refine nt_ ?_
           refine WC.ite rfl (fun h22 => ?_) (fun h22 => ?_)
           ·refine WC.skip ?_
            refine DN.then_normal ?_
            refine WC.ite rfl (fun h22 => ?_) (fun h22 => ?_)
            ·refine sr_ ?_
             refine a_ rfl rfl ?_
             refine nt_ ?_
             refine WC.ret ?_
             refine DN.block_ret ?_
             refine DN.then_ret ?_
             refine DN.ret1 Tryz.results118 rfl ?_
             first | (exfalso; omega) | exact ⟨by congr 1; simp [nmS, nm, *], rfl⟩
            ·refine sr_ ?_
             refine WL.y rfl (Yd.eql rfl rfl) ?_
             refine a_ rfl rfl ?_
             refine nt_ ?_
             refine WC.ite rfl (fun h25 => ?_) (fun h25 => ?_)
             ·refine sr_ ?_
              refine a_ rfl rfl ?_
              refine nt_ ?_
              refine WC.ret ?_
              refine DN.block_ret ?_
              refine DN.then_ret ?_
              refine DN.ret1 Tryz.results118 rfl ?_
              first | (exfalso; omega) | exact ⟨by congr 1; simp [nmS, nm, *], rfl⟩
             ·refine WC.skip ?_
              refine DN.block_normal ?_
              refine ts_ ?_
              refine WC.region ?_
              refine a_ rfl rfl ?_
              refine nt_ ?_
              refine WC.ret ?_
              refine DN.ret1 Tryz.results118 rfl ?_
              first | (exfalso; omega) | exact ⟨by congr 1; simp [nmS, nm, *], rfl⟩
           ·refine WC.region ?_
            refine WL.y rfl (Yd.eql rfl rfl) ?_
            refine a_ rfl rfl ?_
            refine nt_ ?_
            refine WC.ite rfl (fun h22 => ?_) (fun h22 => ?_)
            ·refine sr_ ?_
             refine a_ rfl rfl ?_
             refine nt_ ?_
             refine WC.ret ?_
             refine DN.block_ret ?_
             refine DN.then_ret ?_
             refine DN.ret1 Tryz.results118 rfl ?_
             first | (exfalso; omega) | exact ⟨by congr 1; simp [nmS, nm, *], rfl⟩
            ·refine sr_ ?_
             refine WL.y rfl (Yd.eql rfl rfl) ?_
             refine a_ rfl rfl ?_
             refine nt_ ?_
             refine WC.ite rfl (fun h25 => ?_) (fun h25 => ?_)
             ·refine sr_ ?_
              refine a_ rfl rfl ?_
              refine nt_ ?_
              refine WC.ret ?_
              refine DN.block_ret ?_
              refine DN.then_ret ?_
              refine DN.ret1 Tryz.results118 rfl ?_
              first | (exfalso; omega) | exact ⟨by congr 1; simp [nmS, nm, *], rfl⟩
             ·refine WC.skip ?_
              refine DN.block_normal ?_
              refine ts_ ?_
              refine WC.region ?_
              refine a_ rfl rfl ?_
              refine nt_ ?_
              refine WC.ret ?_
              refine DN.ret1 Tryz.results118 rfl ?_
              first | (exfalso; omega) | exact ⟨by congr 1; simp [nmS, nm, *], rfl⟩
    ·refine WC.region ?_
     refine WL.y rfl (Yd.eql rfl rfl) ?_
     refine a_ rfl rfl ?_
     refine nt_ ?_
     refine WC.ite rfl (fun h9 => ?_) (fun h9 => ?_)
     ·refine sr_ ?_
      refine a_ rfl rfl ?_
      refine nt_ ?_
      refine WC.ret ?_
      refine DN.block_ret ?_
      refine DN.then_ret ?_
      refine DN.ret1 Tryz.results118 rfl ?_
      first | (exfalso; omega) | exact ⟨by congr 1; simp [nmS, nm, *], rfl⟩
     ·refine sr_ ?_
      refine WL.y rfl (Yd.eql rfl rfl) ?_
      refine a_ rfl rfl ?_
      refine nt_ ?_
      refine WC.ite rfl (fun h12 => ?_) (fun h12 => ?_)
      ·refine sr_ ?_
       refine a_ rfl rfl ?_
       refine nt_ ?_
       refine WC.ret ?_
       refine DN.block_ret ?_
       refine DN.then_ret ?_
       refine DN.ret1 Tryz.results118 rfl ?_
       first | (exfalso; omega) | exact ⟨by congr 1; simp [nmS, nm, *], rfl⟩
      ·refine sr_ ?_
       refine WL.y rfl (Yd.eql rfl rfl) ?_
       refine a_ rfl rfl ?_
       refine nt_ ?_
       refine WC.ite rfl (fun h14 => ?_) (fun h14 => ?_)
       ·refine sr_ ?_
        refine a_ rfl rfl ?_
        refine nt_ ?_
        refine WC.ret ?_
        refine DN.block_ret ?_
        refine DN.then_ret ?_
        refine DN.ret1 Tryz.results118 rfl ?_
        first | (exfalso; omega) | exact ⟨by congr 1; simp [nmS, nm, *], rfl⟩
       ·refine sr_ ?_
        refine WL.y rfl (Yd.eql rfl rfl) ?_
        refine a_ rfl rfl ?_
        refine nt_ ?_
        refine WC.ite rfl (fun h16 => ?_) (fun h16 => ?_)
        ·refine sr_ ?_
         refine a_ rfl rfl ?_
         refine nt_ ?_
         refine WC.ret ?_
         refine DN.block_ret ?_
         refine DN.then_ret ?_
         refine DN.ret1 Tryz.results118 rfl ?_
         first | (exfalso; omega) | exact ⟨by congr 1; simp [nmS, nm, *], rfl⟩
        ·refine sr_ ?_
         refine WL.y rfl (Yd.eql rfl rfl) ?_
         refine a_ rfl rfl ?_
         refine nt_ ?_
         refine WC.ite rfl (fun h18 => ?_) (fun h18 => ?_)
         ·refine sr_ ?_
          refine a_ rfl rfl ?_
          refine nt_ ?_
          refine WC.ret ?_
          refine DN.block_ret ?_
          refine DN.then_ret ?_
          refine DN.ret1 Tryz.results118 rfl ?_
          first | (exfalso; omega) | exact ⟨by congr 1; simp [nmS, nm, *], rfl⟩
         ·refine sr_ ?_
          refine WL.y rfl (Yd.eql rfl rfl) ?_
          refine a_ rfl rfl ?_
          refine nt_ ?_
          refine WC.ite rfl (fun h20 => ?_) (fun h20 => ?_)
          ·refine sr_ ?_
           refine a_ rfl rfl ?_
           refine nt_ ?_
           refine WC.ret ?_
           refine DN.block_ret ?_
           refine DN.then_ret ?_
           refine DN.ret1 Tryz.results118 rfl ?_
           first | (exfalso; omega) | exact ⟨by congr 1; simp [nmS, nm, *], rfl⟩
          ·refine WC.seq ?_
           refine sr_ ?_
           refine WL.y rfl (Yd.eql rfl rfl) ?_
           refine a_ rfl rfl ?_
           refine nt_ ?_
           refine WC.ite rfl (fun h22 => ?_) (fun h22 => ?_)
           ·refine WC.skip ?_
            refine DN.then_normal ?_
            refine WC.ite rfl (fun h22 => ?_) (fun h22 => ?_)
            ·refine sr_ ?_
             refine a_ rfl rfl ?_
             refine nt_ ?_
             refine WC.ret ?_
             refine DN.block_ret ?_
             refine DN.then_ret ?_
             refine DN.ret1 Tryz.results118 rfl ?_
             first | (exfalso; omega) | exact ⟨by congr 1; simp [nmS, nm, *], rfl⟩
            ·refine sr_ ?_
             refine WL.y rfl (Yd.eql rfl rfl) ?_
             refine a_ rfl rfl ?_
             refine nt_ ?_
             refine WC.ite rfl (fun h25 => ?_) (fun h25 => ?_)
             ·refine sr_ ?_
              refine a_ rfl rfl ?_
              refine nt_ ?_
              refine WC.ret ?_
              refine DN.block_ret ?_
              refine DN.then_ret ?_
              refine DN.ret1 Tryz.results118 rfl ?_
              first | (exfalso; omega) | exact ⟨by congr 1; simp [nmS, nm, *], rfl⟩
             ·refine WC.skip ?_
              refine DN.block_normal ?_
              refine ts_ ?_
              refine WC.region ?_
              refine a_ rfl rfl ?_
              refine nt_ ?_
              refine WC.ret ?_
              refine DN.ret1 Tryz.results118 rfl ?_
              first | (exfalso; omega) | exact ⟨by congr 1; simp [nmS, nm, *], rfl⟩
           ·refine WC.region ?_
            refine WL.y rfl (Yd.eql rfl rfl) ?_
            refine a_ rfl rfl ?_
            refine nt_ ?_
            refine WC.ite rfl (fun h22 => ?_) (fun h22 => ?_)
            ·refine sr_ ?_
             refine a_ rfl rfl ?_
             refine nt_ ?_
             refine WC.ret ?_
             refine DN.block_ret ?_
             refine DN.then_ret ?_
             refine DN.ret1 Tryz.results118 rfl ?_
             first | (exfalso; omega) | exact ⟨by congr 1; simp [nmS, nm, *], rfl⟩
            ·refine sr_ ?_
             refine WL.y rfl (Yd.eql rfl rfl) ?_
             refine a_ rfl rfl ?_
             refine nt_ ?_
             refine WC.ite rfl (fun h25 => ?_) (fun h25 => ?_)
             ·refine sr_ ?_
              refine a_ rfl rfl ?_
              refine nt_ ?_
              refine WC.ret ?_
              refine DN.block_ret ?_
              refine DN.then_ret ?_
              refine DN.ret1 Tryz.results118 rfl ?_
              first | (exfalso; omega) | exact ⟨by congr 1; simp [nmS, nm, *], rfl⟩
             ·refine WC.skip ?_
              refine DN.block_normal ?_
              refine ts_ ?_
              refine WC.region ?_
              refine a_ rfl rfl ?_
              refine nt_ ?_
              refine WC.ret ?_
              refine DN.ret1 Tryz.results118 rfl ?_
              first | (exfalso; omega) | exact ⟨by congr 1; simp [nmS, nm, *], rfl⟩
  ·refine WC.region ?_
   refine WL.y rfl (Yd.eql rfl rfl) ?_
   refine a_ rfl rfl ?_
   refine nt_ ?_
   refine WC.ite rfl (fun h6 => ?_) (fun h6 => ?_)
   ·refine sr_ ?_
    refine a_ rfl rfl ?_
    refine nt_ ?_
    refine WC.ret ?_
    refine DN.block_ret ?_
    refine DN.then_ret ?_
    refine DN.ret1 Tryz.results118 rfl ?_
    first | (exfalso; omega) | exact ⟨by congr 1; simp [nmS, nm, *], rfl⟩
   ·refine WC.seq ?_
    refine sr_ ?_
    refine WL.y rfl (Yd.eql rfl rfl) ?_
    refine a_ rfl rfl ?_
    refine nt_ ?_
    refine WC.ite rfl (fun h9 => ?_) (fun h9 => ?_)
    ·refine WC.skip ?_
     refine DN.then_normal ?_
     refine WC.ite rfl (fun h9 => ?_) (fun h9 => ?_)
     ·refine sr_ ?_
      refine a_ rfl rfl ?_
      refine nt_ ?_
      refine WC.ret ?_
      refine DN.block_ret ?_
      refine DN.then_ret ?_
      refine DN.ret1 Tryz.results118 rfl ?_
      first | (exfalso; omega) | exact ⟨by congr 1; simp [nmS, nm, *], rfl⟩
     ·refine sr_ ?_
      refine WL.y rfl (Yd.eql rfl rfl) ?_
      refine a_ rfl rfl ?_
      refine nt_ ?_
      refine WC.ite rfl (fun h12 => ?_) (fun h12 => ?_)
      ·refine sr_ ?_
       refine a_ rfl rfl ?_
       refine nt_ ?_
       refine WC.ret ?_
       refine DN.block_ret ?_
       refine DN.then_ret ?_
       refine DN.ret1 Tryz.results118 rfl ?_
       first | (exfalso; omega) | exact ⟨by congr 1; simp [nmS, nm, *], rfl⟩
      ·refine sr_ ?_
       refine WL.y rfl (Yd.eql rfl rfl) ?_
       refine a_ rfl rfl ?_
       refine nt_ ?_
       refine WC.ite rfl (fun h14 => ?_) (fun h14 => ?_)
       ·refine sr_ ?_
        refine a_ rfl rfl ?_
        refine nt_ ?_
        refine WC.ret ?_
        refine DN.block_ret ?_
        refine DN.then_ret ?_
        refine DN.ret1 Tryz.results118 rfl ?_
        first | (exfalso; omega) | exact ⟨by congr 1; simp [nmS, nm, *], rfl⟩
       ·refine sr_ ?_
        refine WL.y rfl (Yd.eql rfl rfl) ?_
        refine a_ rfl rfl ?_
        refine nt_ ?_
        refine WC.ite rfl (fun h16 => ?_) (fun h16 => ?_)
        ·refine sr_ ?_
         refine a_ rfl rfl ?_
         refine nt_ ?_
         refine WC.ret ?_
         refine DN.block_ret ?_
         refine DN.then_ret ?_
         refine DN.ret1 Tryz.results118 rfl ?_
         first | (exfalso; omega) | exact ⟨by congr 1; simp [nmS, nm, *], rfl⟩
        ·refine sr_ ?_
         refine WL.y rfl (Yd.eql rfl rfl) ?_
         refine a_ rfl rfl ?_
         refine nt_ ?_
         refine WC.ite rfl (fun h18 => ?_) (fun h18 => ?_)
         ·refine sr_ ?_
          refine a_ rfl rfl ?_
          refine nt_ ?_
          refine WC.ret ?_
          refine DN.block_ret ?_
          refine DN.then_ret ?_
          refine DN.ret1 Tryz.results118 rfl ?_
          first | (exfalso; omega) | exact ⟨by congr 1; simp [nmS, nm, *], rfl⟩
         ·refine sr_ ?_
          refine WL.y rfl (Yd.eql rfl rfl) ?_
          refine a_ rfl rfl ?_
          refine nt_ ?_
          refine WC.ite rfl (fun h20 => ?_) (fun h20 => ?_)
          ·refine sr_ ?_
           refine a_ rfl rfl ?_
           refine nt_ ?_
           refine WC.ret ?_
           refine DN.block_ret ?_
           refine DN.then_ret ?_
           refine DN.ret1 Tryz.results118 rfl ?_
           first | (exfalso; omega) | exact ⟨by congr 1; simp [nmS, nm, *], rfl⟩
          ·refine WC.seq ?_
           refine sr_ ?_
           refine WL.y rfl (Yd.eql rfl rfl) ?_
           refine a_ rfl rfl ?_
           refine nt_ ?_
           refine WC.ite rfl (fun h22 => ?_) (fun h22 => ?_)
           ·refine WC.skip ?_
            refine DN.then_normal ?_
            refine WC.ite rfl (fun h22 => ?_) (fun h22 => ?_)
            ·refine sr_ ?_
             refine a_ rfl rfl ?_
             refine nt_ ?_
             refine WC.ret ?_
             refine DN.block_ret ?_
             refine DN.then_ret ?_
             refine DN.ret1 Tryz.results118 rfl ?_
             first | (exfalso; omega) | exact ⟨by congr 1; simp [nmS, nm, *], rfl⟩
            ·refine sr_ ?_
             refine WL.y rfl (Yd.eql rfl rfl) ?_
             refine a_ rfl rfl ?_
             refine nt_ ?_
             refine WC.ite rfl (fun h25 => ?_) (fun h25 => ?_)
             ·refine sr_ ?_
              refine a_ rfl rfl ?_
              refine nt_ ?_
              refine WC.ret ?_
              refine DN.block_ret ?_
              refine DN.then_ret ?_
              refine DN.ret1 Tryz.results118 rfl ?_
              first | (exfalso; omega) | exact ⟨by congr 1; simp [nmS, nm, *], rfl⟩
             ·refine WC.skip ?_
              refine DN.block_normal ?_
              refine ts_ ?_
              refine WC.region ?_
              refine a_ rfl rfl ?_
              refine nt_ ?_
              refine WC.ret ?_
              refine DN.ret1 Tryz.results118 rfl ?_
              first | (exfalso; omega) | exact ⟨by congr 1; simp [nmS, nm, *], rfl⟩
           ·refine WC.region ?_
            refine WL.y rfl (Yd.eql rfl rfl) ?_
            refine a_ rfl rfl ?_
            refine nt_ ?_
            refine WC.ite rfl (fun h22 => ?_) (fun h22 => ?_)
            ·refine sr_ ?_
             refine a_ rfl rfl ?_
             refine nt_ ?_
             refine WC.ret ?_
             refine DN.block_ret ?_
             refine DN.then_ret ?_
             refine DN.ret1 Tryz.results118 rfl ?_
             first | (exfalso; omega) | exact ⟨by congr 1; simp [nmS, nm, *], rfl⟩
            ·refine sr_ ?_
             refine WL.y rfl (Yd.eql rfl rfl) ?_
             refine a_ rfl rfl ?_
             refine nt_ ?_
             refine WC.ite rfl (fun h25 => ?_) (fun h25 => ?_)
             ·refine sr_ ?_
              refine a_ rfl rfl ?_
              refine nt_ ?_
              refine WC.ret ?_
              refine DN.block_ret ?_
              refine DN.then_ret ?_
              refine DN.ret1 Tryz.results118 rfl ?_
              first | (exfalso; omega) | exact ⟨by congr 1; simp [nmS, nm, *], rfl⟩
             ·refine WC.skip ?_
              refine DN.block_normal ?_
              refine ts_ ?_
              refine WC.region ?_
              refine a_ rfl rfl ?_
              refine nt_ ?_
              refine WC.ret ?_
              refine DN.ret1 Tryz.results118 rfl ?_
              first | (exfalso; omega) | exact ⟨by congr 1; simp [nmS, nm, *], rfl⟩
    ·refine WC.region ?_
     refine WL.y rfl (Yd.eql rfl rfl) ?_
     refine a_ rfl rfl ?_
     refine nt_ ?_
     refine WC.ite rfl (fun h9 => ?_) (fun h9 => ?_)
     ·refine sr_ ?_
      refine a_ rfl rfl ?_
      refine nt_ ?_
      refine WC.ret ?_
      refine DN.block_ret ?_
      refine DN.then_ret ?_
      refine DN.ret1 Tryz.results118 rfl ?_
      first | (exfalso; omega) | exact ⟨by congr 1; simp [nmS, nm, *], rfl⟩
     ·refine sr_ ?_
      refine WL.y rfl (Yd.eql rfl rfl) ?_
      refine a_ rfl rfl ?_
      refine nt_ ?_
      refine WC.ite rfl (fun h12 => ?_) (fun h12 => ?_)
      ·refine sr_ ?_
       refine a_ rfl rfl ?_
       refine nt_ ?_
       refine WC.ret ?_
       refine DN.block_ret ?_
       refine DN.then_ret ?_
       refine DN.ret1 Tryz.results118 rfl ?_
       first | (exfalso; omega) | exact ⟨by congr 1; simp [nmS, nm, *], rfl⟩
      ·refine sr_ ?_
       refine WL.y rfl (Yd.eql rfl rfl) ?_
       refine a_ rfl rfl ?_
       refine nt_ ?_
       refine WC.ite rfl (fun h14 => ?_) (fun h14 => ?_)
       ·refine sr_ ?_
        refine a_ rfl rfl ?_
        refine nt_ ?_
        refine WC.ret ?_
        refine DN.block_ret ?_
        refine DN.then_ret ?_
        refine DN.ret1 Tryz.results118 rfl ?_
        first | (exfalso; omega) | exact ⟨by congr 1; simp [nmS, nm, *], rfl⟩
       ·refine sr_ ?_
        refine WL.y rfl (Yd.eql rfl rfl) ?_
        refine a_ rfl rfl ?_
        refine nt_ ?_
        refine WC.ite rfl (fun h16 => ?_) (fun h16 => ?_)
        ·refine sr_ ?_
         refine a_ rfl rfl ?_
         refine nt_ ?_
         refine WC.ret ?_
         refine DN.block_ret ?_
         refine DN.then_ret ?_
         refine DN.ret1 Tryz.results118 rfl ?_
         first | (exfalso; omega) | exact ⟨by congr 1; simp [nmS, nm, *], rfl⟩
        ·refine sr_ ?_
         refine WL.y rfl (Yd.eql rfl rfl) ?_
         refine a_ rfl rfl ?_
         refine nt_ ?_
         refine WC.ite rfl (fun h18 => ?_) (fun h18 => ?_)
         ·refine sr_ ?_
          refine a_ rfl rfl ?_
          refine nt_ ?_
          refine WC.ret ?_
          refine DN.block_ret ?_
          refine DN.then_ret ?_
          refine DN.ret1 Tryz.results118 rfl ?_
          first | (exfalso; omega) | exact ⟨by congr 1; simp [nmS, nm, *], rfl⟩
         ·refine sr_ ?_
          refine WL.y rfl (Yd.eql rfl rfl) ?_
          refine a_ rfl rfl ?_
          refine nt_ ?_
          refine WC.ite rfl (fun h20 => ?_) (fun h20 => ?_)
          ·refine sr_ ?_
           refine a_ rfl rfl ?_
           refine nt_ ?_
           refine WC.ret ?_
           refine DN.block_ret ?_
           refine DN.then_ret ?_
           refine DN.ret1 Tryz.results118 rfl ?_
           first | (exfalso; omega) | exact ⟨by congr 1; simp [nmS, nm, *], rfl⟩
          ·refine WC.seq ?_
           refine sr_ ?_
           refine WL.y rfl (Yd.eql rfl rfl) ?_
           refine a_ rfl rfl ?_
           refine nt_ ?_
           refine WC.ite rfl (fun h22 => ?_) (fun h22 => ?_)
           ·refine WC.skip ?_
            refine DN.then_normal ?_
            refine WC.ite rfl (fun h22 => ?_) (fun h22 => ?_)
            ·refine sr_ ?_
             refine a_ rfl rfl ?_
             refine nt_ ?_
             refine WC.ret ?_
             refine DN.block_ret ?_
             refine DN.then_ret ?_
             refine DN.ret1 Tryz.results118 rfl ?_
             first | (exfalso; omega) | exact ⟨by congr 1; simp [nmS, nm, *], rfl⟩
            ·refine sr_ ?_
             refine WL.y rfl (Yd.eql rfl rfl) ?_
             refine a_ rfl rfl ?_
             refine nt_ ?_
             refine WC.ite rfl (fun h25 => ?_) (fun h25 => ?_)
             ·refine sr_ ?_
              refine a_ rfl rfl ?_
              refine nt_ ?_
              refine WC.ret ?_
              refine DN.block_ret ?_
              refine DN.then_ret ?_
              refine DN.ret1 Tryz.results118 rfl ?_
              first | (exfalso; omega) | exact ⟨by congr 1; simp [nmS, nm, *], rfl⟩
             ·refine WC.skip ?_
              refine DN.block_normal ?_
              refine ts_ ?_
              refine WC.region ?_
              refine a_ rfl rfl ?_
              refine nt_ ?_
              refine WC.ret ?_
              refine DN.ret1 Tryz.results118 rfl ?_
              first | (exfalso; omega) | exact ⟨by congr 1; simp [nmS, nm, *], rfl⟩
           ·refine WC.region ?_
            refine WL.y rfl (Yd.eql rfl rfl) ?_
            refine a_ rfl rfl ?_
            refine nt_ ?_
            refine WC.ite rfl (fun h22 => ?_) (fun h22 => ?_)
            ·refine sr_ ?_
             refine a_ rfl rfl ?_
             refine nt_ ?_
             refine WC.ret ?_
             refine DN.block_ret ?_
             refine DN.then_ret ?_
             refine DN.ret1 Tryz.results118 rfl ?_
             first | (exfalso; omega) | exact ⟨by congr 1; simp [nmS, nm, *], rfl⟩
            ·refine sr_ ?_
             refine WL.y rfl (Yd.eql rfl rfl) ?_
             refine a_ rfl rfl ?_
             refine nt_ ?_
             refine WC.ite rfl (fun h25 => ?_) (fun h25 => ?_)
             ·refine sr_ ?_
              refine a_ rfl rfl ?_
              refine nt_ ?_
              refine WC.ret ?_
              refine DN.block_ret ?_
              refine DN.then_ret ?_
              refine DN.ret1 Tryz.results118 rfl ?_
              first | (exfalso; omega) | exact ⟨by congr 1; simp [nmS, nm, *], rfl⟩
             ·refine WC.skip ?_
              refine DN.block_normal ?_
              refine ts_ ?_
              refine WC.region ?_
              refine a_ rfl rfl ?_
              refine nt_ ?_
              refine WC.ret ?_
              refine DN.ret1 Tryz.results118 rfl ?_
              first | (exfalso; omega) | exact ⟨by congr 1; simp [nmS, nm, *], rfl⟩
theorem without_reads (n : Nt) (vk vd : Value) (c : Int) (h1 : vk.oneCell' = true) (h2 : vd.oneCell' = true) (H : List Ck) : Reads Tryz.prog 119 [.agg (ntc n vk vd).toArray, .int .i32 c] H (.agg (ntc (wo n c) (woK vk c) (woD vd c)).toArray) := by
 refine Tells.enter Tryz.func119 rfl Tryz.ntmps119 rfl ?_
 intro w0 R
 refine sr_ ?_
 refine WL.h rfl (Hd.boxA rfl fun b2 => ⟨_, rfl, ?_⟩)
 refine WL.h rfl (Hd.alloc (zs := [.int .i64 0, .int .u32 0, .int .u32 0, .int .u64 0, .int .u64 0, .int .u32 0, .int .i64 0, .bool false, .int .i64 0, .slice none 0 0, .slice none 0 0]) kr_ fun b4 => ⟨_, rfl, ?_⟩)
 refine nt_ ?_
 refine WC.seq ?_
 refine sr_ ?_
 refine m_ rfl rfl ?_
 refine nt_ ?_
 refine WC.block ?_
 refine sr_ ?_
 refine WL.y rfl (Yd.eql rfl rfl) ?_
 refine a_ rfl rfl ?_
 refine nt_ ?_
 refine WC.ite rfl (fun h6 => ?_) (fun h6 => ?_)
 ·refine WC.region ?_
  refine f_ 1 kr_ rfl rfl ?_
  refine WL.s (Hd.store1s kr_ rfl rfl (by rfl) fr_ (by rfl) (by first | (simp only [List.set_cons_zero, List.set_cons_succ, Nat.zero_add, Nat.add_zero, Nat.reduceAdd]; rfl) | rfl) ⟨rfl, ?_⟩)
  refine WL.nil ?_
  refine DN.block_normal ?_
  refine ts_ ?_
  refine WC.region ?_
  refine WL.h rfl (Hd.loadAll (n := 11) kr_ rfl mem_ (by rfl) ⟨_, rfl, ?_⟩)
  refine WL.s (Hd.storeAll (n := 11) kr_ rfl rfl (by rfl) one_ fr_ (by rfl) ⟨rfl, ?_⟩)
  refine nt_ ?_
  refine WC.ret ?_
  refine DN.retCF (s := 11) H Tryz.results119 kr_ rfl List.mem_cons_self (by rfl) ((List.sublist_cons_self _ _).trans (List.sublist_cons_self _ _)) ?_
  exact ⟨by simp [wo, woK, woD, ntc, *], rfl⟩
 ·refine sr_ ?_
  refine WL.y rfl (Yd.eql rfl rfl) ?_
  refine a_ rfl rfl ?_
  refine nt_ ?_
  refine WC.ite rfl (fun h9 => ?_) (fun h9 => ?_)
  ·refine WC.region ?_
   refine f_ 2 kr_ rfl rfl ?_
   refine WL.s (Hd.store1s kr_ rfl rfl (by rfl) fr_ (by rfl) (by first | (simp only [List.set_cons_zero, List.set_cons_succ, Nat.zero_add, Nat.add_zero, Nat.reduceAdd]; rfl) | rfl) ⟨rfl, ?_⟩)
   refine WL.nil ?_
   refine DN.block_normal ?_
   refine ts_ ?_
   refine WC.region ?_
   refine WL.h rfl (Hd.loadAll (n := 11) kr_ rfl mem_ (by rfl) ⟨_, rfl, ?_⟩)
   refine WL.s (Hd.storeAll (n := 11) kr_ rfl rfl (by rfl) one_ fr_ (by rfl) ⟨rfl, ?_⟩)
   refine nt_ ?_
   refine WC.ret ?_
   refine DN.retCF (s := 11) H Tryz.results119 kr_ rfl List.mem_cons_self (by rfl) ((List.sublist_cons_self _ _).trans (List.sublist_cons_self _ _)) ?_
   exact ⟨by simp [wo, woK, woD, ntc, *], rfl⟩
  ·refine sr_ ?_
   refine WL.y rfl (Yd.eql rfl rfl) ?_
   refine a_ rfl rfl ?_
   refine nt_ ?_
   refine WC.ite rfl (fun h12 => ?_) (fun h12 => ?_)
   ·refine WC.region ?_
    refine f_ 3 kr_ rfl rfl ?_
    refine WL.s (Hd.store1s kr_ rfl rfl (by rfl) fr_ (by rfl) (by first | (simp only [List.set_cons_zero, List.set_cons_succ, Nat.zero_add, Nat.add_zero, Nat.reduceAdd]; rfl) | rfl) ⟨rfl, ?_⟩)
    refine WL.nil ?_
    refine DN.block_normal ?_
    refine ts_ ?_
    refine WC.region ?_
    refine WL.h rfl (Hd.loadAll (n := 11) kr_ rfl mem_ (by rfl) ⟨_, rfl, ?_⟩)
    refine WL.s (Hd.storeAll (n := 11) kr_ rfl rfl (by rfl) one_ fr_ (by rfl) ⟨rfl, ?_⟩)
    refine nt_ ?_
    refine WC.ret ?_
    refine DN.retCF (s := 11) H Tryz.results119 kr_ rfl List.mem_cons_self (by rfl) ((List.sublist_cons_self _ _).trans (List.sublist_cons_self _ _)) ?_
    exact ⟨by simp [wo, woK, woD, ntc, *], rfl⟩
   ·refine sr_ ?_
    refine WL.y rfl (Yd.eql rfl rfl) ?_
    refine a_ rfl rfl ?_
    refine nt_ ?_
    refine WC.ite rfl (fun h15 => ?_) (fun h15 => ?_)
    ·refine WC.region ?_
     refine f_ 4 kr_ rfl rfl ?_
     refine WL.s (Hd.store1s kr_ rfl rfl (by rfl) fr_ (by rfl) (by first | (simp only [List.set_cons_zero, List.set_cons_succ, Nat.zero_add, Nat.add_zero, Nat.reduceAdd]; rfl) | rfl) ⟨rfl, ?_⟩)
     refine WL.nil ?_
     refine DN.block_normal ?_
     refine ts_ ?_
     refine WC.region ?_
     refine WL.h rfl (Hd.loadAll (n := 11) kr_ rfl mem_ (by rfl) ⟨_, rfl, ?_⟩)
     refine WL.s (Hd.storeAll (n := 11) kr_ rfl rfl (by rfl) one_ fr_ (by rfl) ⟨rfl, ?_⟩)
     refine nt_ ?_
     refine WC.ret ?_
     refine DN.retCF (s := 11) H Tryz.results119 kr_ rfl List.mem_cons_self (by rfl) ((List.sublist_cons_self _ _).trans (List.sublist_cons_self _ _)) ?_
     exact ⟨by simp [wo, woK, woD, ntc, *], rfl⟩
    ·refine sr_ ?_
     refine WL.y rfl (Yd.eql rfl rfl) ?_
     refine a_ rfl rfl ?_
     refine nt_ ?_
     refine WC.ite rfl (fun h18 => ?_) (fun h18 => ?_)
     ·refine WC.region ?_
      refine f_ 5 kr_ rfl rfl ?_
      refine WL.s (Hd.store1s kr_ rfl rfl (by rfl) fr_ (by rfl) (by first | (simp only [List.set_cons_zero, List.set_cons_succ, Nat.zero_add, Nat.add_zero, Nat.reduceAdd]; rfl) | rfl) ⟨rfl, ?_⟩)
      refine WL.nil ?_
      refine DN.block_normal ?_
      refine ts_ ?_
      refine WC.region ?_
      refine WL.h rfl (Hd.loadAll (n := 11) kr_ rfl mem_ (by rfl) ⟨_, rfl, ?_⟩)
      refine WL.s (Hd.storeAll (n := 11) kr_ rfl rfl (by rfl) one_ fr_ (by rfl) ⟨rfl, ?_⟩)
      refine nt_ ?_
      refine WC.ret ?_
      refine DN.retCF (s := 11) H Tryz.results119 kr_ rfl List.mem_cons_self (by rfl) ((List.sublist_cons_self _ _).trans (List.sublist_cons_self _ _)) ?_
      exact ⟨by simp [wo, woK, woD, ntc, *], rfl⟩
     ·refine sr_ ?_
      refine WL.y rfl (Yd.eql rfl rfl) ?_
      refine a_ rfl rfl ?_
      refine nt_ ?_
      refine WC.ite rfl (fun h21 => ?_) (fun h21 => ?_)
      ·refine WC.region ?_
       refine f_ 6 kr_ rfl rfl ?_
       refine WL.s (Hd.store1s kr_ rfl rfl (by rfl) fr_ (by rfl) (by first | (simp only [List.set_cons_zero, List.set_cons_succ, Nat.zero_add, Nat.add_zero, Nat.reduceAdd]; rfl) | rfl) ⟨rfl, ?_⟩)
       refine WL.nil ?_
       refine DN.block_normal ?_
       refine ts_ ?_
       refine WC.region ?_
       refine WL.h rfl (Hd.loadAll (n := 11) kr_ rfl mem_ (by rfl) ⟨_, rfl, ?_⟩)
       refine WL.s (Hd.storeAll (n := 11) kr_ rfl rfl (by rfl) one_ fr_ (by rfl) ⟨rfl, ?_⟩)
       refine nt_ ?_
       refine WC.ret ?_
       refine DN.retCF (s := 11) H Tryz.results119 kr_ rfl List.mem_cons_self (by rfl) ((List.sublist_cons_self _ _).trans (List.sublist_cons_self _ _)) ?_
       exact ⟨by simp [wo, woK, woD, ntc, *], rfl⟩
      ·refine sr_ ?_
       refine WL.y rfl (Yd.eql rfl rfl) ?_
       refine a_ rfl rfl ?_
       refine nt_ ?_
       refine WC.ite rfl (fun h24 => ?_) (fun h24 => ?_)
       ·refine WC.region ?_
        refine f_ 7 kr_ rfl rfl ?_
        refine WL.s (Hd.store1s kr_ rfl rfl (by rfl) fr_ (by rfl) (by first | (simp only [List.set_cons_zero, List.set_cons_succ, Nat.zero_add, Nat.add_zero, Nat.reduceAdd]; rfl) | rfl) ⟨rfl, ?_⟩)
        refine WL.nil ?_
        refine DN.block_normal ?_
        refine ts_ ?_
        refine WC.region ?_
        refine WL.h rfl (Hd.loadAll (n := 11) kr_ rfl mem_ (by rfl) ⟨_, rfl, ?_⟩)
        refine WL.s (Hd.storeAll (n := 11) kr_ rfl rfl (by rfl) one_ fr_ (by rfl) ⟨rfl, ?_⟩)
        refine nt_ ?_
        refine WC.ret ?_
        refine DN.retCF (s := 11) H Tryz.results119 kr_ rfl List.mem_cons_self (by rfl) ((List.sublist_cons_self _ _).trans (List.sublist_cons_self _ _)) ?_
        exact ⟨by simp [wo, woK, woD, ntc, *], rfl⟩
       ·refine sr_ ?_
        refine WL.y rfl (Yd.eql rfl rfl) ?_
        refine a_ rfl rfl ?_
        refine nt_ ?_
        refine WC.ite rfl (fun h27 => ?_) (fun h27 => ?_)
        ·refine WC.region ?_
         refine f_ 8 kr_ rfl rfl ?_
         refine WL.s (Hd.store1s kr_ rfl rfl (by rfl) fr_ (by rfl) (by first | (simp only [List.set_cons_zero, List.set_cons_succ, Nat.zero_add, Nat.add_zero, Nat.reduceAdd]; rfl) | rfl) ⟨rfl, ?_⟩)
         refine WL.nil ?_
         refine DN.block_normal ?_
         refine ts_ ?_
         refine WC.region ?_
         refine WL.h rfl (Hd.loadAll (n := 11) kr_ rfl mem_ (by rfl) ⟨_, rfl, ?_⟩)
         refine WL.s (Hd.storeAll (n := 11) kr_ rfl rfl (by rfl) one_ fr_ (by rfl) ⟨rfl, ?_⟩)
         refine nt_ ?_
         refine WC.ret ?_
         refine DN.retCF (s := 11) H Tryz.results119 kr_ rfl List.mem_cons_self (by rfl) ((List.sublist_cons_self _ _).trans (List.sublist_cons_self _ _)) ?_
         exact ⟨by simp [wo, woK, woD, ntc, *], rfl⟩
        ·refine sr_ ?_
         refine WL.y rfl (Yd.eql rfl rfl) ?_
         refine a_ rfl rfl ?_
         refine nt_ ?_
         refine WC.ite rfl (fun h30 => ?_) (fun h30 => ?_)
         ·refine WC.region ?_
          refine f_ 9 kr_ rfl rfl ?_
          refine WL.s (Hd.store1s kr_ rfl rfl (by rfl) fr_ (by rfl) (by first | (simp only [List.set_cons_zero, List.set_cons_succ, Nat.zero_add, Nat.add_zero, Nat.reduceAdd]; rfl) | rfl) ⟨rfl, ?_⟩)
          refine WL.nil ?_
          refine DN.block_normal ?_
          refine ts_ ?_
          refine WC.region ?_
          refine WL.h rfl (Hd.loadAll (n := 11) kr_ rfl mem_ (by rfl) ⟨_, rfl, ?_⟩)
          refine WL.s (Hd.storeAll (n := 11) kr_ rfl rfl (by rfl) one_ fr_ (by rfl) ⟨rfl, ?_⟩)
          refine nt_ ?_
          refine WC.ret ?_
          refine DN.retCF (s := 11) H Tryz.results119 kr_ rfl List.mem_cons_self (by rfl) ((List.sublist_cons_self _ _).trans (List.sublist_cons_self _ _)) ?_
          exact ⟨by simp [wo, woK, woD, ntc, *], rfl⟩
         ·refine sr_ ?_
          refine WL.y rfl (Yd.eql rfl rfl) ?_
          refine a_ rfl rfl ?_
          refine nt_ ?_
          refine WC.ite rfl (fun h33 => ?_) (fun h33 => ?_)
          ·refine WC.region ?_
           refine f_ 10 kr_ rfl rfl ?_
           refine WL.s (Hd.store1s kr_ rfl rfl (by rfl) fr_ (by rfl) (by first | (simp only [List.set_cons_zero, List.set_cons_succ, Nat.zero_add, Nat.add_zero, Nat.reduceAdd]; rfl) | rfl) ⟨rfl, ?_⟩)
           refine WL.nil ?_
           refine DN.block_normal ?_
           refine ts_ ?_
           refine WC.region ?_
           refine WL.h rfl (Hd.loadAll (n := 11) kr_ rfl mem_ (by rfl) ⟨_, rfl, ?_⟩)
           refine WL.s (Hd.storeAll (n := 11) kr_ rfl rfl (by rfl) one_ fr_ (by rfl) ⟨rfl, ?_⟩)
           refine nt_ ?_
           refine WC.ret ?_
           refine DN.retCF (s := 11) H Tryz.results119 kr_ rfl List.mem_cons_self (by rfl) ((List.sublist_cons_self _ _).trans (List.sublist_cons_self _ _)) ?_
           exact ⟨by simp [wo, woK, woD, ntc, *], rfl⟩
          ·refine WC.skip ?_
           refine DN.block_normal ?_
           refine ts_ ?_
           refine WC.region ?_
           refine WL.h rfl (Hd.loadAll (n := 11) kr_ rfl mem_ (by rfl) ⟨_, rfl, ?_⟩)
           refine WL.s (Hd.storeAll (n := 11) kr_ rfl rfl (by rfl) one_ fr_ (by rfl) ⟨rfl, ?_⟩)
           refine nt_ ?_
           refine WC.ret ?_
           refine DN.retCF (s := 11) H Tryz.results119 kr_ rfl List.mem_cons_self (by rfl) ((List.sublist_cons_self _ _).trans (List.sublist_cons_self _ _)) ?_
           exact ⟨by simp [wo, woK, woD, ntc, *], rfl⟩
theorem check_reads (n : Nt) (vk vd : Value) (hk : IsSl vk n.key.length) (hd : IsSl vd n.data.length) (H : List Ck) : Reads Tryz.prog 83 [.agg (ntc n vk vd).toArray] H (.int .i64 (if noteBad n then 50 else 0)) := by
 refine Tells.enter Tryz.func83 rfl Tryz.ntmps83 rfl ?_
 intro w0 R
 obtain ⟨ko, kc, rfl⟩ := hk
 obtain ⟨eo, ec, rfl⟩ := hd
 refine sr_ ?_
 refine WL.h rfl (Hd.boxA rfl fun b1 => ⟨_, rfl, ?_⟩)
 refine a_ rfl rfl ?_
 refine ntsr_ ?_
 refine f_ 0 kr_ rfl rfl ?_
 refine d_ kr_ rfl mem_ (by rfl) rfl ?_
 refine WL.r rfl (Ent.func Tryz.call118 rfl) (names_reads n.kind _) ?_
 refine a_ rfl rfl ?_
 refine ntsr_ ?_
 refine WL.h rfl (Hd.loadAll (n := 11) kr_ rfl mem_ (by rfl) ⟨_, rfl, ?_⟩)
 refine WL.h rfl (Hd.alloc (zs := [.int .i64 0, .int .u32 0, .int .u32 0, .int .u64 0, .int .u64 0, .int .u32 0, .int .i64 0, .bool false, .int .i64 0, .slice none 0 0, .slice none 0 0]) kr_ fun b4 => ⟨_, rfl, ?_⟩)
 refine WL.s (Hd.storeAll (n := 11) kr_ rfl rfl (by rfl) one_ fr_ (by rfl) ⟨rfl, ?_⟩)
 refine nt_ ?_
 refine WC.seq ?_
 refine sr_ ?_
 refine m_ rfl rfl ?_
 refine WL.h rfl (Hd.rangeS kr_ rfl fun b14 => ⟨_, rfl, ?_⟩)
 refine nt_ ?_
 refine WC.block ?_
 refine WC.loopK (fun z : Nat × Value × Value => z.1 ≤ (nm n.kind).length ∧ IsSl z.2.1 (restTo n z.1).key.length ∧ IsSl z.2.2 (restTo n z.1).data.length) (fun z : Nat × Value × Value => []) (fun z : Nat × Value × Value => row b4 (ntc (restTo n z.1) z.2.1 z.2.2) 52 :: ⟨b14, .stringIter (nmS n.kind) z.1, true⟩ :: row b1 (ntc n (.slice ko n.key.length kc) (.slice eo n.data.length ec)) 52 :: H) (fun z : Nat × Value × Value => (nm n.kind).length - z.1) ((0, .slice ko n.key.length kc, .slice eo n.data.length ec)) (⟨Nat.zero_le _, ⟨_, _, rfl⟩, ⟨_, _, rfl⟩⟩) (sx_) (Sp.all sp_) ?_
 rintro ⟨i, vk, vd⟩ ⟨hi, hs1, hs2⟩
 simp only at hi hs1 hs2
 obtain ⟨mo, mc, rfl⟩ := hs1
 obtain ⟨oo, oc, rfl⟩ := hs2
 refine sr_ ?_
 refine WL.h rfl (Hd.nextS rfl fr_ (fun hlt => ⟨nmS_small n.kind i hlt, ⟨_, rfl, ?_⟩⟩) (fun hge => ⟨_, rfl, ?_⟩))
 ·rw [nmS_at _ _ hlt]
  rw [nmS_size] at hlt
  refine x_ rfl rfl rfl ?_
  refine nt_ ?_
  refine WC.seq ?_
  refine WC.yes rfl ?_
  refine WC.skip ?_
  refine DN.then_normal ?_
  refine WC.block ?_
  refine sr_ ?_
  refine x_ rfl rfl rfl ?_
  refine a_ rfl rfl ?_
  refine ntr_ ?_
  refine WL.h rfl (Hd.loadAll (n := 11) kr_ rfl mem_ (by rfl) ⟨_, rfl, ?_⟩)
  refine m_ rfl rfl ?_
  refine WL.r rfl (Ent.func Tryz.call119 rfl) (without_reads (restTo n i) (.slice mo _ mc) (.slice oo _ oc) _ rfl rfl _) ?_
  refine WL.s (Hd.storeAll (n := 11) kr_ rfl rfl (by rfl) (ntc_one (IsSl.woK (v := .slice mo (restTo n i).key.length mc) (n := restTo n i) ⟨_, _, rfl⟩ _).one (IsSl.woD (v := .slice oo (restTo n i).data.length oc) (n := restTo n i) ⟨_, _, rfl⟩ _).one) fr_ (by rfl) ⟨rfl, ?_⟩)
  refine WL.nil ?_
  refine DN.block_normal ?_
  have en := restTo_next n i hlt
  have hsl1 := IsSl.woK (v := .slice mo (restTo n i).key.length mc) (n := restTo n i) ⟨_, _, rfl⟩ ((nm n.kind).getD i 0 : Nat)
  have hsl2 := IsSl.woD (v := .slice oo (restTo n i).data.length oc) (n := restTo n i) ⟨_, _, rfl⟩ ((nm n.kind).getD i 0 : Nat)
  rw [← en] at hsl1 hsl2 ⊢
  exact DN.againK ((i + 1, _, _)) (⟨by show i + 1 ≤ (nm n.kind).length; omega, hsl1, hsl2⟩) (show (nm n.kind).length - (i + 1) < (nm n.kind).length - i by omega) (sx_) (Sp.all sp_)
 ·rw [nmS_size] at hge
  obtain rfl : i = (nm n.kind).length := by omega
  rw [show restTo n (nm n.kind).length = rest n from rfl]
  refine x_ rfl rfl rfl ?_
  refine nt_ ?_
  refine WC.seq ?_
  refine WC.no rfl ?_
  refine WC.exit ?_
  refine DN.then_exit ?_
  refine DN.then_exit ?_
  refine DN.block_exit ?_
  refine DN.then_normal ?_
  refine WC.cutK (fun z : Bool => z = moreB (rest n)) (fun z : Bool => [(7, .bool z)]) (fun z : Bool => row b4 (ntc (rest n) (.slice mo (rest n).key.length mc) (.slice oo (rest n).data.length oc)) 52 :: ⟨b14, .stringIter (nmS n.kind) (nm n.kind).length, true⟩ :: row b1 (ntc n (.slice ko n.key.length kc) (.slice eo n.data.length ec)) 52 :: H) ?_ ?_
  ·refine WC.region ?_
   refine f_ 1 kr_ rfl rfl ?_
   refine d_ kr_ rfl mem_ (by rfl) rfl ?_
   refine WL.y rfl (Yd.gtr rfl rfl) ?_
   refine m_ rfl rfl ?_
   refine WL.partP (t := 24) rfl (fun hg24 => ?_) (fun hg24 => ?_)
   ·iterate 3 refine gn_ 24 rfl rfl rfl rfl ?_
    refine WL.y rfl (Yd.pickT rfl rfl) ?_
    refine m_ rfl rfl ?_
    iterate 3 refine gn_ 29 rfl rfl rfl rfl ?_
    refine WL.y rfl (Yd.pickT rfl rfl) ?_
    refine m_ rfl rfl ?_
    iterate 3 refine gn_ 34 rfl rfl rfl rfl ?_
    refine WL.y rfl (Yd.pickT rfl rfl) ?_
    refine m_ rfl rfl ?_
    iterate 3 refine gn_ 39 rfl rfl rfl rfl ?_
    refine WL.y rfl (Yd.pickT rfl rfl) ?_
    refine m_ rfl rfl ?_
    iterate 3 refine gn_ 44 rfl rfl rfl rfl ?_
    refine WL.y rfl (Yd.pickT rfl rfl) ?_
    refine m_ rfl rfl ?_
    refine gn_ 49 rfl rfl rfl rfl ?_
    refine gn_ 49 rfl rfl rfl rfl ?_
    refine WL.y rfl (Yd.pickT rfl rfl) ?_
    refine m_ rfl rfl ?_
    iterate 3 refine gn_ 53 rfl rfl rfl rfl ?_
    refine WL.y rfl (Yd.pickT rfl rfl) ?_
    refine m_ rfl rfl ?_
    iterate 4 refine gn_ 58 rfl rfl rfl rfl ?_
    refine WL.y rfl (Yd.pickT rfl rfl) ?_
    refine m_ rfl rfl ?_
    iterate 4 refine gn_ 64 rfl rfl rfl rfl ?_
    refine WL.y rfl (Yd.pickT rfl rfl) ?_
    refine a_ rfl rfl ?_
    refine WL.nil ?_
    exact DN.reachK (_) (by rw [Bool.eq_iff_iff]; simp only [moreB, Bool.or_eq_true, decide_eq_true_eq, true_iff]; first | omega | (simp only [*, Bool.false_eq_true, false_or, true_or, or_true]; omega) | (simp [*]; done) | (simp [*]; omega)) (Sx.put rfl (sx_)) (Sp.all sp_)
   ·refine gy_ 24 rfl rfl rfl (Yd.fieldAddr (k := 2) kr_ rfl) ?_
    refine WL.gh (dj := 24) rfl rfl rfl (Hd.load1 kr_ rfl mem_ (by rfl) ⟨_, rfl, ?_⟩)
    refine gy_ 24 rfl rfl rfl (Yd.gtr rfl rfl) ?_
    refine WL.y rfl (Yd.pickF rfl rfl) ?_
    refine m_ rfl rfl ?_
    refine WL.partP (t := 29) rfl (fun hg29 => ?_) (fun hg29 => ?_)
    ·iterate 3 refine gn_ 29 rfl rfl rfl rfl ?_
     refine WL.y rfl (Yd.pickT rfl rfl) ?_
     refine m_ rfl rfl ?_
     iterate 3 refine gn_ 34 rfl rfl rfl rfl ?_
     refine WL.y rfl (Yd.pickT rfl rfl) ?_
     refine m_ rfl rfl ?_
     iterate 3 refine gn_ 39 rfl rfl rfl rfl ?_
     refine WL.y rfl (Yd.pickT rfl rfl) ?_
     refine m_ rfl rfl ?_
     iterate 3 refine gn_ 44 rfl rfl rfl rfl ?_
     refine WL.y rfl (Yd.pickT rfl rfl) ?_
     refine m_ rfl rfl ?_
     refine gn_ 49 rfl rfl rfl rfl ?_
     refine gn_ 49 rfl rfl rfl rfl ?_
     refine WL.y rfl (Yd.pickT rfl rfl) ?_
     refine m_ rfl rfl ?_
     iterate 3 refine gn_ 53 rfl rfl rfl rfl ?_
     refine WL.y rfl (Yd.pickT rfl rfl) ?_
     refine m_ rfl rfl ?_
     iterate 4 refine gn_ 58 rfl rfl rfl rfl ?_
     refine WL.y rfl (Yd.pickT rfl rfl) ?_
     refine m_ rfl rfl ?_
     iterate 4 refine gn_ 64 rfl rfl rfl rfl ?_
     refine WL.y rfl (Yd.pickT rfl rfl) ?_
     refine a_ rfl rfl ?_
     refine WL.nil ?_
     exact DN.reachK (_) (by rw [Bool.eq_iff_iff]; simp only [moreB, Bool.or_eq_true, decide_eq_true_eq, true_iff]; first | omega | (simp only [*, Bool.false_eq_true, false_or, true_or, or_true]; omega) | (simp [*]; done) | (simp [*]; omega)) (Sx.put rfl (sx_)) (Sp.all sp_)
    ·refine gy_ 29 rfl rfl rfl (Yd.fieldAddr (k := 3) kr_ rfl) ?_
     refine WL.gh (dj := 29) rfl rfl rfl (Hd.load1 kr_ rfl mem_ (by rfl) ⟨_, rfl, ?_⟩)
     refine gy_ 29 rfl rfl rfl (Yd.gtr rfl rfl) ?_
     refine WL.y rfl (Yd.pickF rfl rfl) ?_
     refine m_ rfl rfl ?_
     refine WL.partP (t := 34) rfl (fun hg34 => ?_) (fun hg34 => ?_)
     ·iterate 3 refine gn_ 34 rfl rfl rfl rfl ?_
      refine WL.y rfl (Yd.pickT rfl rfl) ?_
      refine m_ rfl rfl ?_
      iterate 3 refine gn_ 39 rfl rfl rfl rfl ?_
      refine WL.y rfl (Yd.pickT rfl rfl) ?_
      refine m_ rfl rfl ?_
      iterate 3 refine gn_ 44 rfl rfl rfl rfl ?_
      refine WL.y rfl (Yd.pickT rfl rfl) ?_
      refine m_ rfl rfl ?_
      refine gn_ 49 rfl rfl rfl rfl ?_
      refine gn_ 49 rfl rfl rfl rfl ?_
      refine WL.y rfl (Yd.pickT rfl rfl) ?_
      refine m_ rfl rfl ?_
      iterate 3 refine gn_ 53 rfl rfl rfl rfl ?_
      refine WL.y rfl (Yd.pickT rfl rfl) ?_
      refine m_ rfl rfl ?_
      iterate 4 refine gn_ 58 rfl rfl rfl rfl ?_
      refine WL.y rfl (Yd.pickT rfl rfl) ?_
      refine m_ rfl rfl ?_
      iterate 4 refine gn_ 64 rfl rfl rfl rfl ?_
      refine WL.y rfl (Yd.pickT rfl rfl) ?_
      refine a_ rfl rfl ?_
      refine WL.nil ?_
      exact DN.reachK (_) (by rw [Bool.eq_iff_iff]; simp only [moreB, Bool.or_eq_true, decide_eq_true_eq, true_iff]; first | omega | (simp only [*, Bool.false_eq_true, false_or, true_or, or_true]; omega) | (simp [*]; done) | (simp [*]; omega)) (Sx.put rfl (sx_)) (Sp.all sp_)
     ·refine gy_ 34 rfl rfl rfl (Yd.fieldAddr (k := 4) kr_ rfl) ?_
      refine WL.gh (dj := 34) rfl rfl rfl (Hd.load1 kr_ rfl mem_ (by rfl) ⟨_, rfl, ?_⟩)
      refine gy_ 34 rfl rfl rfl (Yd.gtr rfl rfl) ?_
      refine WL.y rfl (Yd.pickF rfl rfl) ?_
      refine m_ rfl rfl ?_
      refine WL.partP (t := 39) rfl (fun hg39 => ?_) (fun hg39 => ?_)
      ·iterate 3 refine gn_ 39 rfl rfl rfl rfl ?_
       refine WL.y rfl (Yd.pickT rfl rfl) ?_
       refine m_ rfl rfl ?_
       iterate 3 refine gn_ 44 rfl rfl rfl rfl ?_
       refine WL.y rfl (Yd.pickT rfl rfl) ?_
       refine m_ rfl rfl ?_
       refine gn_ 49 rfl rfl rfl rfl ?_
       refine gn_ 49 rfl rfl rfl rfl ?_
       refine WL.y rfl (Yd.pickT rfl rfl) ?_
       refine m_ rfl rfl ?_
       iterate 3 refine gn_ 53 rfl rfl rfl rfl ?_
       refine WL.y rfl (Yd.pickT rfl rfl) ?_
       refine m_ rfl rfl ?_
       iterate 4 refine gn_ 58 rfl rfl rfl rfl ?_
       refine WL.y rfl (Yd.pickT rfl rfl) ?_
       refine m_ rfl rfl ?_
       iterate 4 refine gn_ 64 rfl rfl rfl rfl ?_
       refine WL.y rfl (Yd.pickT rfl rfl) ?_
       refine a_ rfl rfl ?_
       refine WL.nil ?_
       exact DN.reachK (_) (by rw [Bool.eq_iff_iff]; simp only [moreB, Bool.or_eq_true, decide_eq_true_eq, true_iff]; first | omega | (simp only [*, Bool.false_eq_true, false_or, true_or, or_true]; omega) | (simp [*]; done) | (simp [*]; omega)) (Sx.put rfl (sx_)) (Sp.all sp_)
      ·refine gy_ 39 rfl rfl rfl (Yd.fieldAddr (k := 5) kr_ rfl) ?_
       refine WL.gh (dj := 39) rfl rfl rfl (Hd.load1 kr_ rfl mem_ (by rfl) ⟨_, rfl, ?_⟩)
       refine gy_ 39 rfl rfl rfl (Yd.gtr rfl rfl) ?_
       refine WL.y rfl (Yd.pickF rfl rfl) ?_
       refine m_ rfl rfl ?_
       refine WL.partP (t := 44) rfl (fun hg44 => ?_) (fun hg44 => ?_)
       ·iterate 3 refine gn_ 44 rfl rfl rfl rfl ?_
        refine WL.y rfl (Yd.pickT rfl rfl) ?_
        refine m_ rfl rfl ?_
        refine gn_ 49 rfl rfl rfl rfl ?_
        refine gn_ 49 rfl rfl rfl rfl ?_
        refine WL.y rfl (Yd.pickT rfl rfl) ?_
        refine m_ rfl rfl ?_
        iterate 3 refine gn_ 53 rfl rfl rfl rfl ?_
        refine WL.y rfl (Yd.pickT rfl rfl) ?_
        refine m_ rfl rfl ?_
        iterate 4 refine gn_ 58 rfl rfl rfl rfl ?_
        refine WL.y rfl (Yd.pickT rfl rfl) ?_
        refine m_ rfl rfl ?_
        iterate 4 refine gn_ 64 rfl rfl rfl rfl ?_
        refine WL.y rfl (Yd.pickT rfl rfl) ?_
        refine a_ rfl rfl ?_
        refine WL.nil ?_
        exact DN.reachK (_) (by rw [Bool.eq_iff_iff]; simp only [moreB, Bool.or_eq_true, decide_eq_true_eq, true_iff]; first | omega | (simp only [*, Bool.false_eq_true, false_or, true_or, or_true]; omega) | (simp [*]; done) | (simp [*]; omega)) (Sx.put rfl (sx_)) (Sp.all sp_)
       ·refine gy_ 44 rfl rfl rfl (Yd.fieldAddr (k := 6) kr_ rfl) ?_
        refine WL.gh (dj := 44) rfl rfl rfl (Hd.load1 kr_ rfl mem_ (by rfl) ⟨_, rfl, ?_⟩)
        refine gy_ 44 rfl rfl rfl (Yd.neq rfl rfl) ?_
        refine WL.y rfl (Yd.pickF rfl rfl) ?_
        refine m_ rfl rfl ?_
        refine WL.partP (t := 49) rfl (fun hg49 => ?_) (fun hg49 => ?_)
        ·refine gn_ 49 rfl rfl rfl rfl ?_
         refine gn_ 49 rfl rfl rfl rfl ?_
         refine WL.y rfl (Yd.pickT rfl rfl) ?_
         refine m_ rfl rfl ?_
         iterate 3 refine gn_ 53 rfl rfl rfl rfl ?_
         refine WL.y rfl (Yd.pickT rfl rfl) ?_
         refine m_ rfl rfl ?_
         iterate 4 refine gn_ 58 rfl rfl rfl rfl ?_
         refine WL.y rfl (Yd.pickT rfl rfl) ?_
         refine m_ rfl rfl ?_
         iterate 4 refine gn_ 64 rfl rfl rfl rfl ?_
         refine WL.y rfl (Yd.pickT rfl rfl) ?_
         refine a_ rfl rfl ?_
         refine WL.nil ?_
         exact DN.reachK (_) (by rw [Bool.eq_iff_iff]; simp only [moreB, Bool.or_eq_true, decide_eq_true_eq, true_iff]; first | omega | (simp only [*, Bool.false_eq_true, false_or, true_or, or_true]; omega) | (simp [*]; done) | (simp [*]; omega)) (Sx.put rfl (sx_)) (Sp.all sp_)
        ·refine gy_ 49 rfl rfl rfl (Yd.fieldAddr (k := 7) kr_ rfl) ?_
         refine WL.gh (dj := 49) rfl rfl rfl (Hd.load1 kr_ rfl mem_ (by rfl) ⟨_, rfl, ?_⟩)
         refine WL.y rfl (Yd.pickF rfl rfl) ?_
         refine m_ rfl rfl ?_
         refine WL.part (t := 53) rfl (fun hg53 => ?_) (fun hg53 => ?_)
         ·iterate 3 refine gn_ 53 rfl rfl rfl rfl ?_
          refine WL.y rfl (Yd.pickT rfl rfl) ?_
          refine m_ rfl rfl ?_
          iterate 4 refine gn_ 58 rfl rfl rfl rfl ?_
          refine WL.y rfl (Yd.pickT rfl rfl) ?_
          refine m_ rfl rfl ?_
          iterate 4 refine gn_ 64 rfl rfl rfl rfl ?_
          refine WL.y rfl (Yd.pickT rfl rfl) ?_
          refine a_ rfl rfl ?_
          refine WL.nil ?_
          exact DN.reachK (_) (by rw [Bool.eq_iff_iff]; simp only [moreB, Bool.or_eq_true, decide_eq_true_eq, true_iff]; first | omega | (simp only [*, Bool.false_eq_true, false_or, true_or, or_true]; omega) | (simp [*]; done) | (simp [*]; omega)) (Sx.put rfl (sx_)) (Sp.all sp_)
         ·refine gy_ 53 rfl rfl rfl (Yd.fieldAddr (k := 8) kr_ rfl) ?_
          refine WL.gh (dj := 53) rfl rfl rfl (Hd.load1 kr_ rfl mem_ (by rfl) ⟨_, rfl, ?_⟩)
          refine gy_ 53 rfl rfl rfl (Yd.neq rfl rfl) ?_
          refine WL.y rfl (Yd.pickF rfl rfl) ?_
          refine m_ rfl rfl ?_
          refine WL.partP (t := 58) rfl (fun hg58 => ?_) (fun hg58 => ?_)
          ·iterate 4 refine gn_ 58 rfl rfl rfl rfl ?_
           refine WL.y rfl (Yd.pickT rfl rfl) ?_
           refine m_ rfl rfl ?_
           iterate 4 refine gn_ 64 rfl rfl rfl rfl ?_
           refine WL.y rfl (Yd.pickT rfl rfl) ?_
           refine a_ rfl rfl ?_
           refine WL.nil ?_
           exact DN.reachK (_) (by rw [Bool.eq_iff_iff]; simp only [moreB, Bool.or_eq_true, decide_eq_true_eq, true_iff]; first | omega | (simp only [*, Bool.false_eq_true, false_or, true_or, or_true]; omega) | (simp [*]; done) | (simp [*]; omega)) (Sx.put rfl (sx_)) (Sp.all sp_)
          ·refine gy_ 58 rfl rfl rfl (Yd.fieldAddr (k := 9) kr_ rfl) ?_
           refine WL.gh (dj := 58) rfl rfl rfl (Hd.load1 kr_ rfl mem_ (by rfl) ⟨_, rfl, ?_⟩)
           refine gy_ 58 rfl rfl rfl (Yd.len (e := 5) kr_ rfl) ?_
           refine gy_ 58 rfl rfl rfl (Yd.gtr rfl rfl) ?_
           refine WL.y rfl (Yd.pickF rfl rfl) ?_
           refine m_ rfl rfl ?_
           refine WL.partP (t := 64) rfl (fun hg64 => ?_) (fun hg64 => ?_)
           ·iterate 4 refine gn_ 64 rfl rfl rfl rfl ?_
            refine WL.y rfl (Yd.pickT rfl rfl) ?_
            refine a_ rfl rfl ?_
            refine WL.nil ?_
            exact DN.reachK (_) (by rw [Bool.eq_iff_iff]; simp only [moreB, Bool.or_eq_true, decide_eq_true_eq, true_iff]; first | omega | (simp only [*, Bool.false_eq_true, false_or, true_or, or_true]; omega) | (simp [*]; done) | (simp [*]; omega)) (Sx.put rfl (sx_)) (Sp.all sp_)
           ·refine gy_ 64 rfl rfl rfl (Yd.fieldAddr (k := 10) kr_ rfl) ?_
            refine WL.gh (dj := 64) rfl rfl rfl (Hd.load1 kr_ rfl mem_ (by rfl) ⟨_, rfl, ?_⟩)
            refine gy_ 64 rfl rfl rfl (Yd.len (e := 5) kr_ rfl) ?_
            refine gy_ 64 rfl rfl rfl (Yd.gtr rfl rfl) ?_
            refine WL.y rfl (Yd.pickF rfl rfl) ?_
            refine a_ rfl rfl ?_
            refine WL.nil ?_
            exact DN.reachK (_) (by rw [Bool.eq_iff_iff]; simp only [moreB, Bool.or_eq_true, decide_eq_true_eq, true_iff]; first | omega | (simp only [*, Bool.false_eq_true, false_or, true_or, or_true]; omega) | (simp [*]; done) | (simp [*]; omega)) (Sx.put rfl (sx_)) (Sp.all sp_)
  ·intro z7 hz7
   refine WC.cutK (fun z : Bool => z = farB n) (fun z : Bool => [(8, .bool z)]) (fun z : Bool => row b4 (ntc (rest n) (.slice mo (rest n).key.length mc) (.slice oo (rest n).data.length oc)) 52 :: ⟨b14, .stringIter (nmS n.kind) (nm n.kind).length, true⟩ :: row b1 (ntc n (.slice ko n.key.length kc) (.slice eo n.data.length ec)) 52 :: H) ?_ ?_
   ·refine WC.region ?_
    refine f_ 6 kr_ rfl rfl ?_
    refine d_ kr_ rfl mem_ (by rfl) rfl ?_
    refine WL.y rfl (Yd.lss rfl rfl) ?_
    refine m_ rfl rfl ?_
    refine WL.partP (t := 73) rfl (fun hg73 => ?_) (fun hg73 => ?_)
    ·iterate 3 refine gn_ 73 rfl rfl rfl rfl ?_
     refine WL.y rfl (Yd.pickT rfl rfl) ?_
     refine m_ rfl rfl ?_
     iterate 3 refine gn_ 78 rfl rfl rfl rfl ?_
     refine WL.y rfl (Yd.pickT rfl rfl) ?_
     refine m_ rfl rfl ?_
     iterate 3 refine gn_ 83 rfl rfl rfl rfl ?_
     refine WL.y rfl (Yd.pickT rfl rfl) ?_
     refine m_ rfl rfl ?_
     iterate 4 refine gn_ 88 rfl rfl rfl rfl ?_
     refine WL.y rfl (Yd.pickT rfl rfl) ?_
     refine m_ rfl rfl ?_
     iterate 4 refine gn_ 94 rfl rfl rfl rfl ?_
     refine WL.y rfl (Yd.pickT rfl rfl) ?_
     refine a_ rfl rfl ?_
     refine WL.nil ?_
     exact DN.reachK (_) (by rw [Bool.eq_iff_iff]; simp only [farB, Bool.or_eq_true, decide_eq_true_eq, true_iff]; omega) (Sx.put rfl (sx_)) (Sp.all sp_)
    ·refine gy_ 73 rfl rfl rfl (Yd.fieldAddr (k := 6) kr_ rfl) ?_
     refine WL.gh (dj := 73) rfl rfl rfl (Hd.load1 kr_ rfl mem_ (by rfl) ⟨_, rfl, ?_⟩)
     refine gy_ 73 rfl rfl rfl (Yd.geq rfl rfl) ?_
     refine WL.y rfl (Yd.pickF rfl rfl) ?_
     refine m_ rfl rfl ?_
     refine WL.partP (t := 78) rfl (fun hg78 => ?_) (fun hg78 => ?_)
     ·iterate 3 refine gn_ 78 rfl rfl rfl rfl ?_
      refine WL.y rfl (Yd.pickT rfl rfl) ?_
      refine m_ rfl rfl ?_
      iterate 3 refine gn_ 83 rfl rfl rfl rfl ?_
      refine WL.y rfl (Yd.pickT rfl rfl) ?_
      refine m_ rfl rfl ?_
      iterate 4 refine gn_ 88 rfl rfl rfl rfl ?_
      refine WL.y rfl (Yd.pickT rfl rfl) ?_
      refine m_ rfl rfl ?_
      iterate 4 refine gn_ 94 rfl rfl rfl rfl ?_
      refine WL.y rfl (Yd.pickT rfl rfl) ?_
      refine a_ rfl rfl ?_
      refine WL.nil ?_
      exact DN.reachK (_) (by rw [Bool.eq_iff_iff]; simp only [farB, Bool.or_eq_true, decide_eq_true_eq, true_iff]; omega) (Sx.put rfl (sx_)) (Sp.all sp_)
     ·refine gy_ 78 rfl rfl rfl (Yd.fieldAddr (k := 8) kr_ rfl) ?_
      refine WL.gh (dj := 78) rfl rfl rfl (Hd.load1 kr_ rfl mem_ (by rfl) ⟨_, rfl, ?_⟩)
      refine gy_ 78 rfl rfl rfl (Yd.lss rfl rfl) ?_
      refine WL.y rfl (Yd.pickF rfl rfl) ?_
      refine m_ rfl rfl ?_
      refine WL.partP (t := 83) rfl (fun hg83 => ?_) (fun hg83 => ?_)
      ·iterate 3 refine gn_ 83 rfl rfl rfl rfl ?_
       refine WL.y rfl (Yd.pickT rfl rfl) ?_
       refine m_ rfl rfl ?_
       iterate 4 refine gn_ 88 rfl rfl rfl rfl ?_
       refine WL.y rfl (Yd.pickT rfl rfl) ?_
       refine m_ rfl rfl ?_
       iterate 4 refine gn_ 94 rfl rfl rfl rfl ?_
       refine WL.y rfl (Yd.pickT rfl rfl) ?_
       refine a_ rfl rfl ?_
       refine WL.nil ?_
       exact DN.reachK (_) (by rw [Bool.eq_iff_iff]; simp only [farB, Bool.or_eq_true, decide_eq_true_eq, true_iff]; omega) (Sx.put rfl (sx_)) (Sp.all sp_)
      ·refine gy_ 83 rfl rfl rfl (Yd.fieldAddr (k := 8) kr_ rfl) ?_
       refine WL.gh (dj := 83) rfl rfl rfl (Hd.load1 kr_ rfl mem_ (by rfl) ⟨_, rfl, ?_⟩)
       refine gy_ 83 rfl rfl rfl (Yd.gtr rfl rfl) ?_
       refine WL.y rfl (Yd.pickF rfl rfl) ?_
       refine m_ rfl rfl ?_
       refine WL.partP (t := 88) rfl (fun hg88 => ?_) (fun hg88 => ?_)
       ·iterate 4 refine gn_ 88 rfl rfl rfl rfl ?_
        refine WL.y rfl (Yd.pickT rfl rfl) ?_
        refine m_ rfl rfl ?_
        iterate 4 refine gn_ 94 rfl rfl rfl rfl ?_
        refine WL.y rfl (Yd.pickT rfl rfl) ?_
        refine a_ rfl rfl ?_
        refine WL.nil ?_
        exact DN.reachK (_) (by rw [Bool.eq_iff_iff]; simp only [farB, Bool.or_eq_true, decide_eq_true_eq, true_iff]; omega) (Sx.put rfl (sx_)) (Sp.all sp_)
       ·refine gy_ 88 rfl rfl rfl (Yd.fieldAddr (k := 9) kr_ rfl) ?_
        refine WL.gh (dj := 88) rfl rfl rfl (Hd.load1 kr_ rfl mem_ (by rfl) ⟨_, rfl, ?_⟩)
        refine gy_ 88 rfl rfl rfl (Yd.len (e := 5) kr_ rfl) ?_
        refine gy_ 88 rfl rfl rfl (Yd.gtr rfl rfl) ?_
        refine WL.y rfl (Yd.pickF rfl rfl) ?_
        refine m_ rfl rfl ?_
        refine WL.partP (t := 94) rfl (fun hg94 => ?_) (fun hg94 => ?_)
        ·iterate 4 refine gn_ 94 rfl rfl rfl rfl ?_
         refine WL.y rfl (Yd.pickT rfl rfl) ?_
         refine a_ rfl rfl ?_
         refine WL.nil ?_
         exact DN.reachK (_) (by rw [Bool.eq_iff_iff]; simp only [farB, Bool.or_eq_true, decide_eq_true_eq, true_iff]; omega) (Sx.put rfl (sx_)) (Sp.all sp_)
        ·refine gy_ 94 rfl rfl rfl (Yd.fieldAddr (k := 10) kr_ rfl) ?_
         refine WL.gh (dj := 94) rfl rfl rfl (Hd.load1 kr_ rfl mem_ (by rfl) ⟨_, rfl, ?_⟩)
         refine gy_ 94 rfl rfl rfl (Yd.len (e := 5) kr_ rfl) ?_
         refine gy_ 94 rfl rfl rfl (Yd.gtr rfl rfl) ?_
         refine WL.y rfl (Yd.pickF rfl rfl) ?_
         refine a_ rfl rfl ?_
         refine WL.nil ?_
         exact DN.reachK (_) (by rw [Bool.eq_iff_iff]; simp only [farB, Bool.or_eq_true, decide_eq_true_eq, true_iff]; omega) (Sx.put rfl (sx_)) (Sp.all sp_)
   ·intro z8 hz8
    refine WC.seq ?_
    refine sr_ ?_
    refine m_ rfl rfl ?_
    refine WL.y rfl (Yd.eqlS rfl rfl) ?_
    refine m_ rfl rfl ?_
    refine WL.partP (t := 102) rfl (fun hg102 => ?_) (fun hg102 => ?_)
    ·refine gn_ 102 rfl rfl rfl rfl ?_
     refine WL.y rfl (Yd.pickT rfl rfl) ?_
     refine m_ rfl rfl ?_
     refine gn_ 105 rfl rfl rfl rfl ?_
     refine WL.y rfl (Yd.pickT rfl rfl) ?_
     refine m_ rfl rfl ?_
     iterate 4 refine gn_ 108 rfl rfl rfl rfl ?_
     iterate 3 refine gu_ 112 rfl rfl rfl ?_
     refine gn_ 108 rfl rfl rfl rfl ?_
     refine gn_ 108 rfl rfl rfl rfl ?_
     iterate 4 refine gu_ 117 rfl rfl rfl ?_
     refine gn_ 108 rfl rfl rfl rfl ?_
     refine WL.y rfl (Yd.pickT rfl rfl) ?_
     refine nt_ ?_
     refine WC.yes rfl ?_
     refine sr_ ?_
     refine a_ rfl rfl ?_
     refine nt_ ?_
     refine WC.ret ?_
     refine DN.then_ret ?_
     refine DN.fit (C := H) sp_ ?_
     refine DN.ret1 Tryz.results83 rfl ?_
     first
       | (have e : noteBad n = true := by
           simp only [noteBad, Bool.or_eq_true, Bool.and_eq_true, decide_eq_true_eq, ← hz7, ← hz8, ← nmS_empty]
           first | exact .inl hg102 | exact .inr (.inl hg105) | exact .inr (.inr (.inl hg108)) | exact .inr (.inr (.inr ⟨hg112, hg117, h123⟩))
          exact ⟨by rw [e]; rfl, rfl⟩)
       | (have e : noteBad n = false := by
           rw [Bool.eq_false_iff]
           intro h
           simp only [noteBad, Bool.or_eq_true, Bool.and_eq_true, decide_eq_true_eq, ← hz7, ← hz8, ← nmS_empty] at h
           rcases h with h | h | h | ⟨h1, h2, h3⟩
           · exact hg102 h
           · rw [hg105] at h; cases h
           · rw [hg108] at h; cases h
           · omega
          exact ⟨by rw [e]; rfl, rfl⟩)
    ·refine gy_ 102 rfl rfl rfl (Yd.move rfl) ?_
     refine WL.y rfl (Yd.pickF rfl rfl) ?_
     refine m_ rfl rfl ?_
     refine WL.part (t := 105) rfl (fun hg105 => ?_) (fun hg105 => ?_)
     ·refine gn_ 105 rfl rfl rfl rfl ?_
      refine WL.y rfl (Yd.pickT rfl rfl) ?_
      refine m_ rfl rfl ?_
      iterate 4 refine gn_ 108 rfl rfl rfl rfl ?_
      iterate 3 refine gu_ 112 rfl rfl rfl ?_
      refine gn_ 108 rfl rfl rfl rfl ?_
      refine gn_ 108 rfl rfl rfl rfl ?_
      iterate 4 refine gu_ 117 rfl rfl rfl ?_
      refine gn_ 108 rfl rfl rfl rfl ?_
      refine WL.y rfl (Yd.pickT rfl rfl) ?_
      refine nt_ ?_
      refine WC.yes rfl ?_
      refine sr_ ?_
      refine a_ rfl rfl ?_
      refine nt_ ?_
      refine WC.ret ?_
      refine DN.then_ret ?_
      refine DN.fit (C := H) sp_ ?_
      refine DN.ret1 Tryz.results83 rfl ?_
      first
        | (have e : noteBad n = true := by
            simp only [noteBad, Bool.or_eq_true, Bool.and_eq_true, decide_eq_true_eq, ← hz7, ← hz8, ← nmS_empty]
            first | exact .inl hg102 | exact .inr (.inl hg105) | exact .inr (.inr (.inl hg108)) | exact .inr (.inr (.inr ⟨hg112, hg117, h123⟩))
           exact ⟨by rw [e]; rfl, rfl⟩)
        | (have e : noteBad n = false := by
            rw [Bool.eq_false_iff]
            intro h
            simp only [noteBad, Bool.or_eq_true, Bool.and_eq_true, decide_eq_true_eq, ← hz7, ← hz8, ← nmS_empty] at h
            rcases h with h | h | h | ⟨h1, h2, h3⟩
            · exact hg102 h
            · rw [hg105] at h; cases h
            · rw [hg108] at h; cases h
            · omega
           exact ⟨by rw [e]; rfl, rfl⟩)
     ·refine gy_ 105 rfl rfl rfl (Yd.move rfl) ?_
      refine WL.y rfl (Yd.pickF rfl rfl) ?_
      refine m_ rfl rfl ?_
      refine WL.part (t := 108) rfl (fun hg108 => ?_) (fun hg108 => ?_)
      ·iterate 4 refine gn_ 108 rfl rfl rfl rfl ?_
       iterate 3 refine gu_ 112 rfl rfl rfl ?_
       refine gn_ 108 rfl rfl rfl rfl ?_
       refine gn_ 108 rfl rfl rfl rfl ?_
       iterate 4 refine gu_ 117 rfl rfl rfl ?_
       refine gn_ 108 rfl rfl rfl rfl ?_
       refine WL.y rfl (Yd.pickT rfl rfl) ?_
       refine nt_ ?_
       refine WC.yes rfl ?_
       refine sr_ ?_
       refine a_ rfl rfl ?_
       refine nt_ ?_
       refine WC.ret ?_
       refine DN.then_ret ?_
       refine DN.fit (C := H) sp_ ?_
       refine DN.ret1 Tryz.results83 rfl ?_
       first
         | (have e : noteBad n = true := by
             simp only [noteBad, Bool.or_eq_true, Bool.and_eq_true, decide_eq_true_eq, ← hz7, ← hz8, ← nmS_empty]
             first | exact .inl hg102 | exact .inr (.inl hg105) | exact .inr (.inr (.inl hg108)) | exact .inr (.inr (.inr ⟨hg112, hg117, h123⟩))
            exact ⟨by rw [e]; rfl, rfl⟩)
         | (have e : noteBad n = false := by
             rw [Bool.eq_false_iff]
             intro h
             simp only [noteBad, Bool.or_eq_true, Bool.and_eq_true, decide_eq_true_eq, ← hz7, ← hz8, ← nmS_empty] at h
             rcases h with h | h | h | ⟨h1, h2, h3⟩
             · exact hg102 h
             · rw [hg105] at h; cases h
             · rw [hg108] at h; cases h
             · omega
            exact ⟨by rw [e]; rfl, rfl⟩)
      ·refine gy_ 108 rfl rfl rfl (Yd.fieldAddr (k := 0) kr_ rfl) ?_
       refine WL.gh (dj := 108) rfl rfl rfl (Hd.load1 kr_ rfl mem_ (by rfl) ⟨_, rfl, ?_⟩)
       refine gy_ 108 rfl rfl rfl (Yd.geq rfl rfl) ?_
       refine gy_ 108 rfl rfl rfl (Yd.move rfl) ?_
       refine WL.partP (t := 112) rfl (fun hg112 => ?_) (fun hg112 => ?_)
       ·refine gy_ 112 rfl rfl rfl (Yd.fieldAddr (k := 0) kr_ rfl) ?_
        refine WL.gh (dj := 112) rfl rfl rfl (Hd.load1 kr_ rfl mem_ (by rfl) ⟨_, rfl, ?_⟩)
        refine gy_ 112 rfl rfl rfl (Yd.leq rfl rfl) ?_
        refine gy_ 108 rfl rfl rfl (Yd.pickT rfl rfl) ?_
        refine gy_ 108 rfl rfl rfl (Yd.move rfl) ?_
        refine WL.partP (t := 117) rfl (fun hg117 => ?_) (fun hg117 => ?_)
        ·refine gy_ 117 rfl rfl rfl (Yd.fieldAddr (k := 9) kr_ rfl) ?_
         refine WL.gh (dj := 117) rfl rfl rfl (Hd.load1 kr_ rfl mem_ (by rfl) ⟨_, rfl, ?_⟩)
         refine gy_ 117 rfl rfl rfl (Yd.len (e := 5) kr_ rfl) ?_
         refine gy_ 117 rfl rfl rfl (Yd.eql rfl rfl) ?_
         refine gy_ 108 rfl rfl rfl (Yd.pickT rfl rfl) ?_
         refine WL.y rfl (Yd.pickF rfl rfl) ?_
         refine nt_ ?_
         refine WC.ite rfl (fun h123 => ?_) (fun h123 => ?_)
         ·refine sr_ ?_
          refine a_ rfl rfl ?_
          refine nt_ ?_
          refine WC.ret ?_
          refine DN.then_ret ?_
          refine DN.fit (C := H) sp_ ?_
          refine DN.ret1 Tryz.results83 rfl ?_
          first
            | (have e : noteBad n = true := by
                simp only [noteBad, Bool.or_eq_true, Bool.and_eq_true, decide_eq_true_eq, ← hz7, ← hz8, ← nmS_empty]
                first | exact .inl hg102 | exact .inr (.inl hg105) | exact .inr (.inr (.inl hg108)) | exact .inr (.inr (.inr ⟨hg112, hg117, h123⟩))
               exact ⟨by rw [e]; rfl, rfl⟩)
            | (have e : noteBad n = false := by
                rw [Bool.eq_false_iff]
                intro h
                simp only [noteBad, Bool.or_eq_true, Bool.and_eq_true, decide_eq_true_eq, ← hz7, ← hz8, ← nmS_empty] at h
                rcases h with h | h | h | ⟨h1, h2, h3⟩
                · exact hg102 h
                · rw [hg105] at h; cases h
                · rw [hg108] at h; cases h
                · omega
               exact ⟨by rw [e]; rfl, rfl⟩)
         ·refine WC.skip ?_
          refine ts_ ?_
          refine WC.region ?_
          refine a_ rfl rfl ?_
          refine nt_ ?_
          refine WC.ret ?_
          refine DN.fit (C := H) sp_ ?_
          refine DN.ret1 Tryz.results83 rfl ?_
          first
            | (have e : noteBad n = true := by
                simp only [noteBad, Bool.or_eq_true, Bool.and_eq_true, decide_eq_true_eq, ← hz7, ← hz8, ← nmS_empty]
                first | exact .inl hg102 | exact .inr (.inl hg105) | exact .inr (.inr (.inl hg108)) | exact .inr (.inr (.inr ⟨hg112, hg117, h123⟩))
               exact ⟨by rw [e]; rfl, rfl⟩)
            | (have e : noteBad n = false := by
                rw [Bool.eq_false_iff]
                intro h
                simp only [noteBad, Bool.or_eq_true, Bool.and_eq_true, decide_eq_true_eq, ← hz7, ← hz8, ← nmS_empty] at h
                rcases h with h | h | h | ⟨h1, h2, h3⟩
                · exact hg102 h
                · rw [hg105] at h; cases h
                · rw [hg108] at h; cases h
                · omega
               exact ⟨by rw [e]; rfl, rfl⟩)
        ·iterate 4 refine gn_ 117 rfl rfl rfl rfl ?_
         refine gy_ 108 rfl rfl rfl (Yd.pickF rfl rfl) ?_
         refine WL.y rfl (Yd.pickF rfl rfl) ?_
         refine nt_ ?_
         refine WC.no rfl ?_
         refine WC.skip ?_
         refine ts_ ?_
         refine WC.region ?_
         refine a_ rfl rfl ?_
         refine nt_ ?_
         refine WC.ret ?_
         refine DN.fit (C := H) sp_ ?_
         refine DN.ret1 Tryz.results83 rfl ?_
         first
           | (have e : noteBad n = true := by
               simp only [noteBad, Bool.or_eq_true, Bool.and_eq_true, decide_eq_true_eq, ← hz7, ← hz8, ← nmS_empty]
               first | exact .inl hg102 | exact .inr (.inl hg105) | exact .inr (.inr (.inl hg108)) | exact .inr (.inr (.inr ⟨hg112, hg117, h123⟩))
              exact ⟨by rw [e]; rfl, rfl⟩)
           | (have e : noteBad n = false := by
               rw [Bool.eq_false_iff]
               intro h
               simp only [noteBad, Bool.or_eq_true, Bool.and_eq_true, decide_eq_true_eq, ← hz7, ← hz8, ← nmS_empty] at h
               rcases h with h | h | h | ⟨h1, h2, h3⟩
               · exact hg102 h
               · rw [hg105] at h; cases h
               · rw [hg108] at h; cases h
               · omega
              exact ⟨by rw [e]; rfl, rfl⟩)
       ·iterate 3 refine gn_ 112 rfl rfl rfl rfl ?_
        refine gy_ 108 rfl rfl rfl (Yd.pickF rfl rfl) ?_
        refine gy_ 108 rfl rfl rfl (Yd.move rfl) ?_
        iterate 4 refine gn_ 117 rfl rfl rfl rfl ?_
        refine gy_ 108 rfl rfl rfl (Yd.pickF rfl rfl) ?_
        refine WL.y rfl (Yd.pickF rfl rfl) ?_
        refine nt_ ?_
        refine WC.no rfl ?_
        refine WC.skip ?_
        refine ts_ ?_
        refine WC.region ?_
        refine a_ rfl rfl ?_
        refine nt_ ?_
        refine WC.ret ?_
        refine DN.fit (C := H) sp_ ?_
        refine DN.ret1 Tryz.results83 rfl ?_
        first
          | (have e : noteBad n = true := by
              simp only [noteBad, Bool.or_eq_true, Bool.and_eq_true, decide_eq_true_eq, ← hz7, ← hz8, ← nmS_empty]
              first | exact .inl hg102 | exact .inr (.inl hg105) | exact .inr (.inr (.inl hg108)) | exact .inr (.inr (.inr ⟨hg112, hg117, h123⟩))
             exact ⟨by rw [e]; rfl, rfl⟩)
          | (have e : noteBad n = false := by
              rw [Bool.eq_false_iff]
              intro h
              simp only [noteBad, Bool.or_eq_true, Bool.and_eq_true, decide_eq_true_eq, ← hz7, ← hz8, ← nmS_empty] at h
              rcases h with h | h | h | ⟨h1, h2, h3⟩
              · exact hg102 h
              · rw [hg105] at h; cases h
              · rw [hg108] at h; cases h
              · omega
             exact ⟨by rw [e]; rfl, rfl⟩)
end Go.Proofs.YtkamlondepceiaaGreat

set_option linter.unusedVariables false
set_option linter.unusedSimpArgs false
set_option maxHeartbeats 2000000
namespace Go.Proofs.YtkamlondepceiaaGreat
open Go.SL
theorem right_reads (k : Kp) (va vr : Value) (ha : IsSl va k.asked.length) (hr : IsSl vr k.reply.length) (H : List Ck) : Reads Tryz.prog 92 [.agg (kc k va vr).toArray] H (.bool (decide (rightP k))) := by
 refine Tells.enter Tryz.func92 rfl Tryz.ntmps92 rfl ?_
 intro w0 R
 obtain ⟨ao, ac, rfl⟩ := ha
 obtain ⟨ro, rc, rfl⟩ := hr
 refine sr_ ?_
 refine WL.h rfl (Hd.boxA rfl fun b1 => ⟨_, rfl, ?_⟩)
 refine a_ rfl rfl ?_
 refine ntsr_ ?_
 refine f_ 0 kr_ rfl rfl ?_
 refine d_ kr_ rfl mem_ (by rfl) rfl ?_
 refine WL.y rfl (Yd.gtr rfl rfl) ?_
 refine m_ rfl rfl ?_
 refine WL.partP (t := 6) rfl (fun hg6 => ?_) (fun hg6 => ?_)
 ·refine gy_ 6 rfl rfl rfl (Yd.fieldAddr (k := 1) kr_ rfl) ?_
  refine WL.gh (dj := 6) rfl rfl rfl (Hd.load1 kr_ rfl mem_ (by rfl) ⟨_, rfl, ?_⟩)
  refine gy_ 6 rfl rfl rfl (Yd.geq rfl rfl) ?_
  refine WL.y rfl (Yd.pickT rfl rfl) ?_
  refine m_ rfl rfl ?_
  refine WL.part (t := 11) rfl (fun hg11 => ?_) (fun hg11 => ?_)
  ·refine gy_ 11 rfl rfl rfl (Yd.fieldAddr (k := 1) kr_ rfl) ?_
   refine WL.gh (dj := 11) rfl rfl rfl (Hd.load1 kr_ rfl mem_ (by rfl) ⟨_, rfl, ?_⟩)
   refine gy_ 11 rfl rfl rfl (Yd.lss rfl rfl) ?_
   refine WL.y rfl (Yd.pickT rfl rfl) ?_
   refine m_ rfl rfl ?_
   refine WL.part (t := 16) rfl (fun hg16 => ?_) (fun hg16 => ?_)
   ·refine gy_ 16 rfl rfl rfl (Yd.fieldAddr (k := 3) kr_ rfl) ?_
    refine WL.gh (dj := 16) rfl rfl rfl (Hd.load1 kr_ rfl mem_ (by rfl) ⟨_, rfl, ?_⟩)
    refine gy_ 16 rfl rfl rfl (Yd.len (e := 5) kr_ rfl) ?_
    refine gy_ 16 rfl rfl rfl (Yd.leq rfl rfl) ?_
    refine WL.y rfl (Yd.pickT rfl rfl) ?_
    refine m_ rfl rfl ?_
    refine WL.part (t := 22) rfl (fun hg22 => ?_) (fun hg22 => ?_)
    ·refine gy_ 22 rfl rfl rfl (Yd.fieldAddr (k := 5) kr_ rfl) ?_
     refine WL.gh (dj := 22) rfl rfl rfl (Hd.load1 kr_ rfl mem_ (by rfl) ⟨_, rfl, ?_⟩)
     refine gy_ 22 rfl rfl rfl (Yd.len (e := 5) kr_ rfl) ?_
     refine gy_ 22 rfl rfl rfl (Yd.leq rfl rfl) ?_
     refine WL.y rfl (Yd.pickT rfl rfl) ?_
     refine m_ rfl rfl ?_
     refine WL.part (t := 28) rfl (fun hg28 => ?_) (fun hg28 => ?_)
     ·refine gy_ 28 rfl rfl rfl (Yd.fieldAddr (k := 4) kr_ rfl) ?_
      refine WL.gh (dj := 28) rfl rfl rfl (Hd.load1 kr_ rfl mem_ (by rfl) ⟨_, rfl, ?_⟩)
      refine gy_ 28 rfl rfl rfl (Yd.eql rfl rfl) ?_
      refine gy_ 28 rfl rfl rfl (Yd.move rfl) ?_
      refine WL.partP (t := 32) rfl (fun hg32 => ?_) (fun hg32 => ?_)
      ·iterate 3 refine gn_ 32 rfl rfl rfl rfl ?_
       refine gy_ 28 rfl rfl rfl (Yd.pickT rfl rfl) ?_
       refine WL.y rfl (Yd.pickT rfl rfl) ?_
       refine a_ rfl rfl ?_
       refine nt_ ?_
       refine WC.ret ?_
       refine DN.fit (C := H) sp_ ?_
       refine DN.ret1 Tryz.results92 rfl ?_
       refine ⟨?_, rfl⟩
       congr 1
       rw [Bool.eq_iff_iff]
       simp only [decide_eq_true_eq, decide_eq_false_iff_not, eq_self, Bool.false_eq_true, false_iff, true_iff] at *
       simp only [rightP]
       omega
      ·refine gy_ 32 rfl rfl rfl (Yd.fieldAddr (k := 4) kr_ rfl) ?_
       refine WL.gh (dj := 32) rfl rfl rfl (Hd.load1 kr_ rfl mem_ (by rfl) ⟨_, rfl, ?_⟩)
       refine gy_ 32 rfl rfl rfl (Yd.eql rfl rfl) ?_
       refine gy_ 28 rfl rfl rfl (Yd.pickF rfl rfl) ?_
       refine WL.y rfl (Yd.pickT rfl rfl) ?_
       refine a_ rfl rfl ?_
       refine nt_ ?_
       refine WC.ret ?_
       refine DN.fit (C := H) sp_ ?_
       refine DN.ret1 Tryz.results92 rfl ?_
       refine ⟨?_, rfl⟩
       congr 1
       rw [Bool.eq_iff_iff]
       simp only [decide_eq_true_eq, decide_eq_false_iff_not, eq_self, Bool.false_eq_true, false_iff, true_iff] at *
       simp only [rightP]
       omega
     ·iterate 4 refine gn_ 28 rfl rfl rfl rfl ?_
      iterate 3 refine gu_ 32 rfl rfl rfl ?_
      refine gn_ 28 rfl rfl rfl rfl ?_
      refine WL.y rfl (Yd.pickF rfl rfl) ?_
      refine a_ rfl rfl ?_
      refine nt_ ?_
      refine WC.ret ?_
      refine DN.fit (C := H) sp_ ?_
      refine DN.ret1 Tryz.results92 rfl ?_
      refine ⟨?_, rfl⟩
      congr 1
      rw [Bool.eq_iff_iff]
      simp only [decide_eq_true_eq, decide_eq_false_iff_not, eq_self, Bool.false_eq_true, false_iff, true_iff] at *
      simp only [rightP]
      omega
    ·iterate 4 refine gn_ 22 rfl rfl rfl rfl ?_
     refine WL.y rfl (Yd.pickF rfl rfl) ?_
     refine m_ rfl rfl ?_
     iterate 4 refine gn_ 28 rfl rfl rfl rfl ?_
     iterate 3 refine gu_ 32 rfl rfl rfl ?_
     refine gn_ 28 rfl rfl rfl rfl ?_
     refine WL.y rfl (Yd.pickF rfl rfl) ?_
     refine a_ rfl rfl ?_
     refine nt_ ?_
     refine WC.ret ?_
     refine DN.fit (C := H) sp_ ?_
     refine DN.ret1 Tryz.results92 rfl ?_
     refine ⟨?_, rfl⟩
     congr 1
     rw [Bool.eq_iff_iff]
     simp only [decide_eq_true_eq, decide_eq_false_iff_not, eq_self, Bool.false_eq_true, false_iff, true_iff] at *
     simp only [rightP]
     omega
   ·iterate 4 refine gn_ 16 rfl rfl rfl rfl ?_
    refine WL.y rfl (Yd.pickF rfl rfl) ?_
    refine m_ rfl rfl ?_
    iterate 4 refine gn_ 22 rfl rfl rfl rfl ?_
    refine WL.y rfl (Yd.pickF rfl rfl) ?_
    refine m_ rfl rfl ?_
    iterate 4 refine gn_ 28 rfl rfl rfl rfl ?_
    iterate 3 refine gu_ 32 rfl rfl rfl ?_
    refine gn_ 28 rfl rfl rfl rfl ?_
    refine WL.y rfl (Yd.pickF rfl rfl) ?_
    refine a_ rfl rfl ?_
    refine nt_ ?_
    refine WC.ret ?_
    refine DN.fit (C := H) sp_ ?_
    refine DN.ret1 Tryz.results92 rfl ?_
    refine ⟨?_, rfl⟩
    congr 1
    rw [Bool.eq_iff_iff]
    simp only [decide_eq_true_eq, decide_eq_false_iff_not, eq_self, Bool.false_eq_true, false_iff, true_iff] at *
    simp only [rightP]
    omega
  ·iterate 3 refine gn_ 11 rfl rfl rfl rfl ?_
   refine WL.y rfl (Yd.pickF rfl rfl) ?_
   refine m_ rfl rfl ?_
   iterate 4 refine gn_ 16 rfl rfl rfl rfl ?_
   refine WL.y rfl (Yd.pickF rfl rfl) ?_
   refine m_ rfl rfl ?_
   iterate 4 refine gn_ 22 rfl rfl rfl rfl ?_
   refine WL.y rfl (Yd.pickF rfl rfl) ?_
   refine m_ rfl rfl ?_
   iterate 4 refine gn_ 28 rfl rfl rfl rfl ?_
   iterate 3 refine gu_ 32 rfl rfl rfl ?_
   refine gn_ 28 rfl rfl rfl rfl ?_
   refine WL.y rfl (Yd.pickF rfl rfl) ?_
   refine a_ rfl rfl ?_
   refine nt_ ?_
   refine WC.ret ?_
   refine DN.fit (C := H) sp_ ?_
   refine DN.ret1 Tryz.results92 rfl ?_
   refine ⟨?_, rfl⟩
   congr 1
   rw [Bool.eq_iff_iff]
   simp only [decide_eq_true_eq, decide_eq_false_iff_not, eq_self, Bool.false_eq_true, false_iff, true_iff] at *
   simp only [rightP]
   omega
 ·iterate 3 refine gn_ 6 rfl rfl rfl rfl ?_
  refine WL.y rfl (Yd.pickF rfl rfl) ?_
  refine m_ rfl rfl ?_
  iterate 3 refine gn_ 11 rfl rfl rfl rfl ?_
  refine WL.y rfl (Yd.pickF rfl rfl) ?_
  refine m_ rfl rfl ?_
  iterate 4 refine gn_ 16 rfl rfl rfl rfl ?_
  refine WL.y rfl (Yd.pickF rfl rfl) ?_
  refine m_ rfl rfl ?_
  iterate 4 refine gn_ 22 rfl rfl rfl rfl ?_
  refine WL.y rfl (Yd.pickF rfl rfl) ?_
  refine m_ rfl rfl ?_
  iterate 4 refine gn_ 28 rfl rfl rfl rfl ?_
  iterate 3 refine gu_ 32 rfl rfl rfl ?_
  refine gn_ 28 rfl rfl rfl rfl ?_
  refine WL.y rfl (Yd.pickF rfl rfl) ?_
  refine a_ rfl rfl ?_
  refine nt_ ?_
  refine WC.ret ?_
  refine DN.fit (C := H) sp_ ?_
  refine DN.ret1 Tryz.results92 rfl ?_
  refine ⟨?_, rfl⟩
  congr 1
  rw [Bool.eq_iff_iff]
  simp only [decide_eq_true_eq, decide_eq_false_iff_not, eq_self, Bool.false_eq_true, false_iff, true_iff] at *
  simp only [rightP]
  omega
theorem of_reads (k : Kp) (va vr : Value) (h1 : va.oneCell' = true) (h2 : vr.oneCell' = true) (H : List Ck) : Reads Tryz.prog 94 [.agg (kc k va vr).toArray] H (.agg (keyc k.order k.step k.undo).toArray) := by
 refine Tells.enter Tryz.func94 rfl Tryz.ntmps94 rfl ?_
 intro w0 R
 refine sr_ ?_
 refine WL.h rfl (Hd.boxA rfl fun b1 => ⟨_, rfl, ?_⟩)
 refine WL.h rfl (Hd.alloc (zs := [.int .u32 0, .int .i64 0, .bool false]) kr_ fun b2 => ⟨_, rfl, ?_⟩)
 refine ntsr_ ?_
 refine f_ 0 kr_ rfl rfl ?_
 refine d_ kr_ rfl mem_ (by rfl) rfl ?_
 refine f_ 1 kr_ rfl rfl ?_
 refine d_ kr_ rfl mem_ (by rfl) rfl ?_
 refine f_ 2 kr_ rfl rfl ?_
 refine d_ kr_ rfl mem_ (by rfl) rfl ?_
 refine WL.y rfl (Yd.buildL (pl := [(0, 1), (1, 1), (2, 1)]) (zs := [.int .u32 0, .int .i64 0, .bool false]) (parts := [(0, .tmp 4), (1, .tmp 6), (2, .tmp 8)]) (vs := [(0, _), (1, _), (2, _)]) (cells := [_, _, _]) kr_ kr_ rfl rfl) ?_
 refine WL.s (Hd.storeAll (n := 3) kr_ rfl rfl (by rfl) one_ fr_ (by rfl) ⟨rfl, ?_⟩)
 refine nt_ ?_
 refine WC.ret ?_
 refine DN.retCF (s := 3) H Tryz.results94 kr_ rfl List.mem_cons_self (by rfl) ((List.sublist_cons_self _ _).trans (List.sublist_cons_self _ _)) ?_
 exact ⟨rfl, rfl⟩
theorem number_reads (o : BitVec 32) (s : Int) (u : Bool) (h0 : 0 ≤ s) (h : s < 16) (H : List Ck) : Reads Tryz.prog 117 [.agg (keyc o s u).toArray] H (.int .u64 (numb o s u : Nat)) := by
 refine Tells.enter Tryz.func117 rfl Tryz.ntmps117 rfl ?_
 intro w0 R
 refine sr_ ?_
 refine WL.h rfl (Hd.boxA rfl fun b1 => ⟨_, rfl, ?_⟩)
 refine WL.y rfl (Yd.assign (v := .int .u64 ((0#64).toNat : Int)) rfl) ?_
 refine ntsr_ ?_
 refine f_ 0 kr_ rfl rfl ?_
 refine d_ kr_ rfl mem_ (by rfl) rfl ?_
 refine WL.y rfl (Yd.conv32_64 _ kr_ kr_ rfl rfl) ?_
 refine WL.y rfl (Yd.shl64 _ 8 rfl rfl rfl rfl) ?_
 refine f_ 1 kr_ rfl rfl ?_
 refine d_ kr_ rfl mem_ (by rfl) rfl ?_
 refine WL.y rfl (Yd.to64 _ kr_ kr_ rfl rfl) ?_
 refine WL.y rfl (Yd.shl64 _ 1 rfl rfl rfl rfl) ?_
 refine WL.y rfl (Yd.or64 _ _ rfl rfl rfl rfl) ?_
 refine a_ rfl rfl ?_
 refine nt_ ?_
 refine WC.seq ?_
 refine sr_ ?_
 refine f_ 2 kr_ rfl rfl ?_
 refine d_ kr_ rfl mem_ (by rfl) rfl ?_
 refine nt_ ?_
 refine WC.cond rfl (fun h14 => ?_) (fun h14 => ?_)
 ·refine WC.region ?_
  refine m_ rfl rfl ?_
  refine WL.y rfl (Yd.or64 _ (1#64) rfl rfl rfl rfl) ?_
  refine a_ rfl rfl ?_
  refine ntsr_ ?_
  refine m_ rfl rfl ?_
  refine a_ rfl rfl ?_
  refine nt_ ?_
  refine WC.ret ?_
  refine DN.fit (C := H) sp_ ?_
  refine DN.ret1 Tryz.results117 rfl ?_
  refine ⟨?_, rfl⟩
  subst h14
  rw [numB_u h0 h]
  simp [numb]
 ·refine WC.skip ?_
  refine ts_ ?_
  refine WC.region ?_
  refine m_ rfl rfl ?_
  refine a_ rfl rfl ?_
  refine nt_ ?_
  refine WC.ret ?_
  refine DN.fit (C := H) sp_ ?_
  refine DN.ret1 Tryz.results117 rfl ?_
  refine ⟨?_, rfl⟩
  subst h14
  rw [numB_of h0 h]
  simp [numb]
end Go.Proofs.YtkamlondepceiaaGreat

set_option linter.unusedVariables false
set_option linter.unusedSimpArgs false
set_option maxHeartbeats 2000000
namespace Go.Proofs.YtkamlondepceiaaGreat
open Go.SL
theorem check2_reads (e : BitVec 32) (v : Value) (ks : List Kp) (H : List Ck) (hv : KV v ks H) (hl : ks.length ≤ 9223372036854775807) : Reads Tryz.prog 82 [.agg #[.int .u32 e.toNat, v]] H (.int .i64 (if chk ks then 0 else 2)) := by
 refine Tells.enter Tryz.func82 rfl Tryz.ntmps82 rfl ?_
 intro w0 R
 obtain ⟨cs, hr, hk⟩ := hv
 obtain ⟨ao, c, rfl, hc⟩ := hr.form
 refine sr_ ?_
 refine WL.h rfl (Hd.boxA rfl fun b1 => ⟨_, rfl, ?_⟩)
 refine a_ rfl rfl ?_
 refine nt_ ?_
 refine WC.seq ?_
 refine sr_ ?_
 refine f_ 1 kr_ rfl rfl ?_
 refine d_ kr_ rfl mem_ (by rfl) rfl ?_
 refine WL.y rfl (Yd.len (e := 118) kr_ rfl) ?_
 refine WL.y rfl (Yd.gtr rfl rfl) ?_
 refine nt_ ?_
 refine WC.ite rfl (fun h8 => ?_) (fun h8 => ?_)
 ·refine sr_ ?_
  refine a_ rfl rfl ?_
  refine nt_ ?_
  refine WC.ret ?_
  refine DN.then_ret ?_
  refine DN.fit (C := H) sp_ ?_
  refine DN.ret1 Tryz.results82 rfl ?_
  first
    | exact ⟨by rw [if_pos hck], rfl⟩
    | exact ⟨by rw [if_neg hbad], rfl⟩
    | exact ⟨by rw [if_neg (fun h9 => by have := h9.1; omega)], rfl⟩
 ·refine WC.skip ?_
  refine ts_ ?_
  refine sr_ ?_
  refine f_ 1 kr_ rfl rfl ?_
  refine d_ kr_ rfl mem_ (by rfl) rfl ?_
  refine WL.y rfl (Yd.len (e := 118) kr_ rfl) ?_
  refine m_ rfl rfl ?_
  refine nt_ ?_
  refine WC.block ?_
  refine WC.loopS (fun z : Nat => z ≤ ks.length ∧ chk (ks.take z)) (fun z : Nat => [(12, .int .i64 (z : Int))]) (fun z : Nat => row b1 [.int .u32 e.toNat, .slice ao ks.length c] 82 :: H) (fun z : Nat => ks.length - z) (0) (show 0 ≤ ks.length ∧ chk (ks.take 0) from ⟨Nat.zero_le _, chk_take0 ks⟩) (Sx.put rfl (sx_)) sp_ ?_
  rintro i hI
  replace hI : i ≤ ks.length ∧ chk (ks.take i) := hI
  obtain ⟨hi, hck⟩ := hI
  change WC _ _ _ _ _ _ ([(12, .int .i64 (i : Int))] ++ _) (row b1 [.int .u32 e.toNat, .slice ao ks.length c] 82 :: H)
  refine sr_ ?_
  refine WL.y rfl (Yd.lss rfl rfl) ?_
  refine nt_ ?_
  refine WC.seq ?_
  refine WC.ite rfl (fun h13 => ?_) (fun h13 => ?_)
  ·have hlt : i < ks.length := by omega
   obtain ⟨va, vr, hg, hva, hvr⟩ := hk.at i hlt
   refine WC.skip ?_
   refine ts_ ?_
   refine WC.block ?_
   refine sr_ ?_
   refine m_ rfl rfl ?_
   refine WL.elemA (e := 118) (s := 6) kr_ kr_ kr_ rfl rfl (rfl) (hr.mono gr_) (hg) (by rfl) (by omega) (hlt) rfl rfl ?_
   intro p15
   refine WL.h rfl (Hd.alloc (zs := [.int .u32 0, .int .i64 0, .bool false, .slice none 0 0, .int .i64 0, .slice none 0 0]) kr_ fun b4 => ⟨_, rfl, ?_⟩)
   refine a_ rfl rfl ?_
   refine WL.s (Hd.storeAll (n := 6) kr_ rfl rfl (by rfl) (kc_one (IsSl.of hva).one (IsSl.of hvr).one) fr_ (by rfl) ⟨rfl, ?_⟩)
   refine nt_ ?_
   refine WC.cutK (fun z : Bool => (z = true → ¬ chk ks) ∧ (z = true ∨ chk (ks.take (i + 1)))) (fun z : Bool => [(37, .bool z)]) (fun z : Bool => row b4 (kc ks[i] va vr) 118 :: (row b1 [.int .u32 e.toNat, .slice ao ks.length c] 82 :: H)) ?_ ?_
   ·refine WC.draw 21 kr_ rfl ?_
    refine WA.quiet 21 0 rfl rfl kr_ kr_ kr_ rfl ?_
    refine WQ.rd rfl Wt.none (Rd.loadAll (n := 6) kr_ rfl mem_ (by rfl)) ?_
    refine WQ.rf rfl Wt.none (Ent.func Tryz.call92 rfl) (right_reads ks[i] va vr (IsSl.of hva) (IsSl.of hvr) _) Sp.sn ?_
    refine WQ.y rfl (Yd.notB rfl) ?_
    refine WQ.y rfl (Yd.move rfl) ?_
    refine WQ.part (t := 20) rfl (fun hg20 => ?_) (fun hg20 => ?_)
    ·refine WQ.gn (dj := 20) rfl rfl rfl rfl ?_
     refine WQ.gn (dj := 20) rfl rfl rfl rfl ?_
     refine WQ.gn (dj := 20) rfl rfl rfl rfl ?_
     refine WQ.gu (dj := 23) rfl rfl rfl ?_
     refine WQ.gu (dj := 23) rfl rfl rfl ?_
     refine WQ.gu (dj := 23) rfl rfl rfl ?_
     refine WQ.gu (dj := 23) rfl rfl rfl ?_
     refine WQ.gu (dj := 23) rfl rfl rfl ?_
     refine WQ.gu (dj := 23) rfl rfl rfl ?_
     refine WQ.gu (dj := 23) rfl rfl rfl ?_
     refine WQ.gu (dj := 23) rfl rfl rfl ?_
     refine WQ.gu (dj := 23) rfl rfl rfl ?_
     refine WQ.gu (dj := 23) rfl rfl rfl ?_
     refine WQ.gu (dj := 23) rfl rfl rfl ?_
     refine WQ.gu (dj := 23) rfl rfl rfl ?_
     refine WQ.gn (dj := 20) rfl rfl rfl rfl ?_
     refine WQ.y rfl (Yd.pickT rfl rfl) ?_
     refine WQ.nil ?_
     refine WA.done kr_ ?_
     exact DN.reachK (_) (⟨fun h => by
         first
         | (intro hc9; have hr9 := chk_right hc9 hlt; simp [hr9] at hg20; done)
         | (intro hc9; have h8 := chk_adj hc9 (by omega) hlt; simp only [decide_eq_true_eq, Kp.num] at h h8; omega)
         | (cases h; done), by
         first
         | exact .inl rfl
         | exact .inr (chk_step hck (by omega) hlt (by simpa using hg20) (.inl (by omega)))
         | (by_cases h9 : (ks[i - 1]'(by omega)).num < ks[i].num
            · exact .inr (chk_step hck (by omega) hlt (by simpa using hg20) (.inr h9))
            · exact .inl (by simp only [decide_eq_true_eq, Kp.num] at h9 ⊢; omega))⟩) (Sx.put rfl (sx_)) (Sp.all sp_)
    ·refine WQ.gy (dj := 20) rfl rfl rfl (Yd.move rfl) ?_
     refine WQ.gy (dj := 20) rfl rfl rfl (Yd.gtr rfl rfl) ?_
     refine WQ.gy (dj := 20) rfl rfl rfl (Yd.move rfl) ?_
     refine WQ.partP (t := 23) rfl (fun hg23 => ?_) (fun hg23 => ?_)
     ·refine WQ.gy (dj := 23) rfl rfl rfl (Yd.fieldAddr (k := 1) kr_ rfl) ?_
      refine WQ.rd rfl (Wt.yes (dj := 23) rfl rfl) (Rd.load1 kr_ rfl mem_ (by rfl)) ?_
      refine WQ.gy (dj := 23) rfl rfl rfl (Yd.move rfl) ?_
      refine WQ.gy (dj := 23) rfl rfl rfl (Yd.sub rfl rfl (by omega) (by omega)) ?_
      obtain ⟨lb, lf, lcs, lT, lfr, lex, elo, _, hlm, hlcs⟩ := hr.lies (by omega)
      obtain ⟨va0, vr0, hg0, hva0, hvr0⟩ := hk.at (i - 1) (by omega)
      have hr0 : rightP (ks[i - 1]'(by omega)) := hck.2.1 _ (List.mem_take_iff_getElem.2 ⟨i - 1, by omega, rfl⟩)
      have hr1 : rightP ks[i] := by simpa using hg20
      refine WQ.gy (dj := 23) rfl rfl rfl (Yd.indexAddr (e := 118) (s := 6) (b := lb) (o := lf) (n := ks.length) (c := c) kr_ kr_ (congrArg (fun q => some (Value.slice q ks.length c)) elo) rfl (by omega) (by omega)) ?_
      refine WQ.rd rfl (Wt.yes (dj := 23) rfl rfl) (Rd.loadA (n := 6) (b := lb) (o := lf + ((i : Int) - 1).toNat * 6) (cs := lcs) (vs := kc (ks[i - 1]'(by omega)) va0 vr0) kr_ rfl (Gr.get gr_ hlm) rfl (by rw [show ((i : Int) - 1).toNat = ((i - 1 : Nat) : Int).toNat by omega]; exact rs_cell hlcs (by rw [hk.len]; omega) hg0)) ?_
      refine WQ.rf rfl (Wt.yes (dj := 23) rfl rfl) (Ent.func Tryz.call94 rfl) (of_reads ks[i - 1] va0 vr0 (IsSl.of hva0).one (IsSl.of hvr0).one _) Sp.sn ?_
      refine WQ.rf rfl (Wt.yes (dj := 23) rfl rfl) (Ent.func Tryz.call117 rfl) (number_reads _ _ _ hr0.2.1 hr0.2.2.1 _) Sp.sn ?_
      refine WQ.rd rfl (Wt.yes (dj := 23) rfl rfl) (Rd.loadAll (n := 6) kr_ rfl mem_ (by rfl)) ?_
      refine WQ.rf rfl (Wt.yes (dj := 23) rfl rfl) (Ent.func Tryz.call94 rfl) (of_reads ks[i] va vr (IsSl.of hva).one (IsSl.of hvr).one _) Sp.sn ?_
      refine WQ.rf rfl (Wt.yes (dj := 23) rfl rfl) (Ent.func Tryz.call117 rfl) (number_reads _ _ _ hr1.2.1 hr1.2.2.1 _) Sp.sn ?_
      refine WQ.gy (dj := 23) rfl rfl rfl (Yd.geq rfl rfl) ?_
      refine WQ.gy (dj := 20) rfl rfl rfl (Yd.pickT rfl rfl) ?_
      refine WQ.y rfl (Yd.pickF rfl rfl) ?_
      refine WQ.nil ?_
      refine WA.done kr_ ?_
      exact DN.reachK (_) (⟨fun h => by
          first
          | (intro hc9; have hr9 := chk_right hc9 hlt; simp [hr9] at hg20; done)
          | (intro hc9; have h8 := chk_adj hc9 (by omega) hlt; simp only [decide_eq_true_eq, Kp.num] at h h8; omega)
          | (cases h; done), by
          first
          | exact .inl rfl
          | exact .inr (chk_step hck (by omega) hlt (by simpa using hg20) (.inl (by omega)))
          | (by_cases h9 : (ks[i - 1]'(by omega)).num < ks[i].num
             · exact .inr (chk_step hck (by omega) hlt (by simpa using hg20) (.inr h9))
             · exact .inl (by simp only [decide_eq_true_eq, Kp.num] at h9 ⊢; omega))⟩) (Sx.put rfl (sx_)) (Sp.all sp_)
     ·refine WQ.gn (dj := 23) rfl rfl rfl rfl ?_
      refine WQ.gn (dj := 23) rfl rfl rfl rfl ?_
      refine WQ.gn (dj := 23) rfl rfl rfl rfl ?_
      refine WQ.gn (dj := 23) rfl rfl rfl rfl ?_
      refine WQ.gn (dj := 23) rfl rfl rfl rfl ?_
      refine WQ.gn (dj := 23) rfl rfl rfl rfl ?_
      refine WQ.gn (dj := 23) rfl rfl rfl rfl ?_
      refine WQ.gn (dj := 23) rfl rfl rfl rfl ?_
      refine WQ.gn (dj := 23) rfl rfl rfl rfl ?_
      refine WQ.gn (dj := 23) rfl rfl rfl rfl ?_
      refine WQ.gn (dj := 23) rfl rfl rfl rfl ?_
      refine WQ.gn (dj := 23) rfl rfl rfl rfl ?_
      refine WQ.gy (dj := 20) rfl rfl rfl (Yd.pickF rfl rfl) ?_
      refine WQ.y rfl (Yd.pickF rfl rfl) ?_
      refine WQ.nil ?_
      refine WA.done kr_ ?_
      exact DN.reachK (_) (⟨fun h => by
          first
          | (intro hc9; have hr9 := chk_right hc9 hlt; simp [hr9] at hg20; done)
          | (intro hc9; have h8 := chk_adj hc9 (by omega) hlt; simp only [decide_eq_true_eq, Kp.num] at h h8; omega)
          | (cases h; done), by
          first
          | exact .inl rfl
          | exact .inr (chk_step hck (by omega) hlt (by simpa using hg20) (.inl (by omega)))
          | (by_cases h9 : (ks[i - 1]'(by omega)).num < ks[i].num
             · exact .inr (chk_step hck (by omega) hlt (by simpa using hg20) (.inr h9))
             · exact .inl (by simp only [decide_eq_true_eq, Kp.num] at h9 ⊢; omega))⟩) (Sx.put rfl (sx_)) (Sp.all sp_)
   ·intro z37 hz37
    refine WC.cond rfl (fun h37 => ?_) (fun h37 => ?_)
    ·have hbad : ¬ chk ks := hz37.1 h37
     refine sr_ ?_
     refine a_ rfl rfl ?_
     refine nt_ ?_
     refine WC.ret ?_
     refine DN.block_ret ?_
     refine DN.then_ret ?_
     refine DN.then_ret ?_
     refine DN.block_ret ?_
     refine DN.then_ret ?_
     refine DN.fit (C := H) sp_ ?_
     refine DN.ret1 Tryz.results82 rfl ?_
     first
       | exact ⟨by rw [if_pos hck], rfl⟩
       | exact ⟨by rw [if_neg hbad], rfl⟩
       | exact ⟨by rw [if_neg (fun h9 => by have := h9.1; omega)], rfl⟩
    ·have hnext : chk (ks.take (i + 1)) := by
       rcases hz37.2 with h | h
       · rw [h] at h37; cases h37
       · exact h
     refine WC.skip ?_
     refine DN.block_normal ?_
     refine DN.then_normal ?_
     refine WC.region ?_
     refine WL.y rfl (Yd.add rfl rfl (by omega) (by omega)) ?_
     refine m_ rfl rfl ?_
     refine WL.nil ?_
     exact DN.againS (i + 1) (show (i + 1) ≤ ks.length ∧ chk (ks.take (i + 1)) from ⟨by omega, hnext⟩) (show ks.length - (i + 1) < ks.length - i by omega) (Sx.put rfl (sx_)) sp_
  ·obtain rfl : i = ks.length := by omega
   rw [List.take_length] at hck
   refine WC.exit ?_
   refine DN.then_exit ?_
   refine DN.then_exit ?_
   refine DN.block_exit ?_
   refine ts_ ?_
   refine WC.region ?_
   refine a_ rfl rfl ?_
   refine nt_ ?_
   refine WC.ret ?_
   refine DN.fit (C := H) sp_ ?_
   refine DN.ret1 Tryz.results82 rfl ?_
   first
     | exact ⟨by rw [if_pos hck], rfl⟩
     | exact ⟨by rw [if_neg hbad], rfl⟩
     | exact ⟨by rw [if_neg (fun h9 => by have := h9.1; omega)], rfl⟩
theorem against_reads (k : Kp) (va vr : Value) (h1 : va.oneCell' = true) (h2 : vr.oneCell' = true) (n : Nat) (h0 : 0 ≤ k.step) (h : k.step < 16) (H : List Ck) : Reads Tryz.prog 127 [.agg (kc k va vr).toArray, .int .u64 (n : Int)] H (.int .i64 (if k.num < n then -1 else if n < k.num then 1 else 0)) := by
 refine Tells.enter Tryz.func127 rfl Tryz.ntmps127 rfl ?_
 intro w0 R
 refine sr_ ?_
 refine WL.h rfl (Hd.boxA rfl fun b2 => ⟨_, rfl, ?_⟩)
 refine a_ rfl rfl ?_
 refine ntsr_ ?_
 refine WL.h rfl (Hd.loadAll (n := 6) kr_ rfl mem_ (by rfl) ⟨_, rfl, ?_⟩)
 refine WL.r rfl (Ent.func Tryz.call94 rfl) (of_reads k va vr h1 h2 _) ?_
 refine WL.r rfl (Ent.func Tryz.call117 rfl) (number_reads _ _ _ h0 h _) ?_
 refine a_ rfl rfl ?_
 refine nt_ ?_
 refine WC.seq ?_
 refine WC.block ?_
 refine sr_ ?_
 refine m_ rfl rfl ?_
 refine m_ rfl rfl ?_
 refine WL.y rfl (Yd.lss rfl rfl) ?_
 refine a_ rfl rfl ?_
 refine nt_ ?_
 refine WC.ite rfl (fun h9 => ?_) (fun h9 => ?_)
 ·refine sr_ ?_
  refine a_ rfl rfl ?_
  refine nt_ ?_
  refine WC.ret ?_
  refine DN.block_ret ?_
  refine DN.then_ret ?_
  refine DN.fit (C := H) sp_ ?_
  refine DN.ret1 Tryz.results127 rfl ?_
  refine ⟨?_, rfl⟩
  first
    | rw [if_pos (show k.num < n by unfold Kp.num; omega)]
    | rw [if_neg (show ¬ k.num < n by unfold Kp.num; omega), if_pos (show n < k.num by unfold Kp.num; omega)]
    | rw [if_neg (show ¬ k.num < n by unfold Kp.num; omega), if_neg (show ¬ n < k.num by unfold Kp.num; omega)]
 ·refine sr_ ?_
  refine m_ rfl rfl ?_
  refine m_ rfl rfl ?_
  refine WL.y rfl (Yd.gtr rfl rfl) ?_
  refine a_ rfl rfl ?_
  refine nt_ ?_
  refine WC.ite rfl (fun h13 => ?_) (fun h13 => ?_)
  ·refine sr_ ?_
   refine a_ rfl rfl ?_
   refine nt_ ?_
   refine WC.ret ?_
   refine DN.block_ret ?_
   refine DN.then_ret ?_
   refine DN.fit (C := H) sp_ ?_
   refine DN.ret1 Tryz.results127 rfl ?_
   refine ⟨?_, rfl⟩
   first
     | rw [if_pos (show k.num < n by unfold Kp.num; omega)]
     | rw [if_neg (show ¬ k.num < n by unfold Kp.num; omega), if_pos (show n < k.num by unfold Kp.num; omega)]
     | rw [if_neg (show ¬ k.num < n by unfold Kp.num; omega), if_neg (show ¬ n < k.num by unfold Kp.num; omega)]
  ·refine WC.skip ?_
   refine DN.block_normal ?_
   refine ts_ ?_
   refine WC.region ?_
   refine a_ rfl rfl ?_
   refine nt_ ?_
   refine WC.ret ?_
   refine DN.fit (C := H) sp_ ?_
   refine DN.ret1 Tryz.results127 rfl ?_
   refine ⟨?_, rfl⟩
   first
     | rw [if_pos (show k.num < n by unfold Kp.num; omega)]
     | rw [if_neg (show ¬ k.num < n by unfold Kp.num; omega), if_pos (show n < k.num by unfold Kp.num; omega)]
     | rw [if_neg (show ¬ k.num < n by unfold Kp.num; omega), if_neg (show ¬ n < k.num by unfold Kp.num; omega)]
theorem bsf_reads (v : Value) (ks : List Kp) (H : List Ck) (hv : KV v ks H) (hck : chk ks) (n : Nat) : Reads Tryz.prog 126 [v, .int .u64 (n : Int), .func (.func 127) #[] #[]] H (.tuple #[.int .i64 (pos ks n : Nat), .bool (getK ks n).isSome]) := by
 refine Tells.enter Tryz.func126 rfl Tryz.ntmps126 rfl ?_
 intro w0 R
 obtain ⟨cs, hr, hk⟩ := hv
 obtain ⟨ao, c, rfl, hc⟩ := hr.form
 have h200 := hck.1
 refine sr_ ?_
 refine a_ rfl rfl ?_
 refine a_ rfl rfl ?_
 refine ntsr_ ?_
 refine m_ rfl rfl ?_
 refine WL.y rfl (Yd.len (e := 118) kr_ rfl) ?_
 refine a_ rfl rfl ?_
 refine ntsr_ ?_
 refine m_ rfl rfl ?_
 refine a_ rfl rfl ?_
 refine a_ rfl rfl ?_
 refine nt_ ?_
 refine WC.seq ?_
 refine WC.block ?_
 refine WC.loopS (fun z : Nat × Nat => z.1 ≤ z.2 ∧ z.2 ≤ ks.length ∧ (∀ t (ht : t < ks.length), t < z.1 → ks[t].num < n) ∧ (∀ t (ht : t < ks.length), z.2 ≤ t → n ≤ ks[t].num)) (fun z : Nat × Nat => [(9, .int .i64 (z.1 : Int)), (10, .int .i64 (z.2 : Int))]) (fun z : Nat × Nat => H) (fun z : Nat × Nat => z.2 - z.1) (⟨0, ks.length⟩) (show 0 ≤ ks.length ∧ ks.length ≤ ks.length ∧ (∀ t (ht : t < ks.length), t < 0 → ks[t].num < n) ∧ (∀ t (ht : t < ks.length), ks.length ≤ t → n ≤ ks[t].num) from ⟨Nat.zero_le _, Nat.le_refl _, fun t ht h => by omega, fun t ht h => by omega⟩) (Sx.put rfl (Sx.put rfl (sx_))) sp_ ?_
 rintro ⟨i, j⟩ hI
 replace hI : i ≤ j ∧ j ≤ ks.length ∧ (∀ t (ht : t < ks.length), t < i → ks[t].num < n) ∧ (∀ t (ht : t < ks.length), j ≤ t → n ≤ ks[t].num) := hI
 obtain ⟨hij, hj, hlo, hhi⟩ := hI
 change WC _ _ _ _ _ _ ([(9, .int .i64 (i : Int)), (10, .int .i64 (j : Int))] ++ _) (H)
 refine WC.seq ?_
 refine sr_ ?_
 refine m_ rfl rfl ?_
 refine m_ rfl rfl ?_
 refine WL.y rfl (Yd.lss rfl rfl) ?_
 refine nt_ ?_
 refine WC.ite rfl (fun h17 => ?_) (fun h17 => ?_)
 ·have hm : (i + j) / 2 < ks.length := by omega
  obtain ⟨va, vr, hg, hva, hvr⟩ := hk.at ((i + j) / 2) hm
  have hrt := chk_right hck hm
  refine WC.skip ?_
  refine DN.then_normal ?_
  refine WC.block ?_
  refine sr_ ?_
  refine m_ rfl rfl ?_
  refine m_ rfl rfl ?_
  refine WL.y rfl (Yd.add rfl rfl (by omega) (by omega)) ?_
  refine WL.y rfl (Yd.to64 _ kr_ kr_ rfl rfl) ?_
  refine WL.y rfl (Yd.shr64 _ 1 rfl rfl rfl rfl) ?_
  refine WL.renamed (t := 22) (v := .int .u64 (((i + j) / 2 : Nat) : Int)) rfl (congrArg (Value.int .u64) (by rw [BitVec.toNat_ushiftRight, BitVec.toNat_ofInt, Nat.shiftRight_eq_div_pow]; omega)) ?_
  refine WL.y rfl (Yd.toInt kr_ kr_ rfl (by omega) (by omega)) ?_
  refine a_ rfl rfl ?_
  refine ntsr_ ?_
  iterate 3 refine m_ rfl rfl ?_
  refine WL.elemA (e := 118) (s := 6) kr_ kr_ kr_ rfl rfl (rfl) (hr.mono gr_) (hg) (by rfl) (by omega) (hm) rfl rfl ?_
  intro p27
  refine m_ rfl rfl ?_
  refine WL.r rfl (Ent.val Tryz.call127 rfl rfl) (against_reads _ va vr (IsSl.of hva).one (IsSl.of hvr).one n hrt.2.1 hrt.2.2.1 _) ?_
  refine WL.y rfl (Yd.lss rfl rfl) ?_
  refine nt_ ?_
  refine WC.ite rfl (fun h31 => ?_) (fun h31 => ?_)
  ·have hm2 : ks[(i + j) / 2].num < n := by
     revert h31
     split
     · intro _; assumption
     · split <;> omega
   refine WC.region ?_
   refine m_ rfl rfl ?_
   refine WL.y rfl (Yd.add rfl rfl (by omega) (by omega)) ?_
   refine a_ rfl rfl ?_
   refine WL.nil ?_
   refine DN.block_normal ?_
   exact DN.againS (⟨(i + j) / 2 + 1, j⟩) (show ((i + j) / 2 + 1) ≤ j ∧ j ≤ ks.length ∧ (∀ t (ht : t < ks.length), t < ((i + j) / 2 + 1) → ks[t].num < n) ∧ (∀ t (ht : t < ks.length), j ≤ t → n ≤ ks[t].num) from ⟨by omega, by omega, fun t ht h => by
       rcases Nat.lt_or_ge t ((i + j) / 2) with h5 | h5
       · have := chk_lt hck h5 hm; omega
       · obtain rfl : t = (i + j) / 2 := by omega
         exact hm2, hhi⟩) (show j - ((i + j) / 2 + 1) < j - i by omega) (Sx.put rfl (Sx.put rfl (sx_))) sp_
  ·have hm2 : ¬ ks[(i + j) / 2].num < n := by
     revert h31
     split
     · omega
     · intro _; assumption
   refine WC.region ?_
   refine m_ rfl rfl ?_
   refine a_ rfl rfl ?_
   refine WL.nil ?_
   refine DN.block_normal ?_
   exact DN.againS (⟨i, (i + j) / 2⟩) (show i ≤ ((i + j) / 2) ∧ ((i + j) / 2) ≤ ks.length ∧ (∀ t (ht : t < ks.length), t < i → ks[t].num < n) ∧ (∀ t (ht : t < ks.length), ((i + j) / 2) ≤ t → n ≤ ks[t].num) from ⟨by omega, by omega, hlo, fun t ht h => by
       rcases Nat.lt_or_ge ((i + j) / 2) t with h5 | h5
       · have := chk_lt hck h5 ht; omega
       · obtain rfl : t = (i + j) / 2 := by omega
         omega⟩) (show ((i + j) / 2) - i < j - i by omega) (Sx.put rfl (Sx.put rfl (sx_))) sp_
 ·obtain rfl : i = j := by omega
  have hpos : pos ks n = i := pos_eq hj hlo fun h => hhi i h (Nat.le_refl _)
  refine WC.exit ?_
  refine DN.then_exit ?_
  refine DN.then_exit ?_
  refine DN.block_exit ?_
  refine ts_ ?_
  refine WC.region ?_
  iterate 3 refine m_ rfl rfl ?_
  refine WL.y rfl (Yd.lss rfl rfl) ?_
  refine m_ rfl rfl ?_
  refine WL.partP (t := 39) rfl (fun hg39 => ?_) (fun hg39 => ?_)
  ·refine gy_ 39 rfl rfl rfl (Yd.move rfl) ?_
   refine gy_ 39 rfl rfl rfl (Yd.move rfl) ?_
   refine gy_ 39 rfl rfl rfl (Yd.move rfl) ?_
   have hm : i < ks.length := by omega
   obtain ⟨va, vr, hg, hva, hvr⟩ := hk.at i hm
   have hrt := chk_right hck hm
   obtain ⟨lb, lf, lcs, lT, lfr, lex, elo, _, hlm, hlcs⟩ := hr.lies (by omega)
   refine gy_ 39 rfl rfl rfl (Yd.indexAddr (e := 118) (s := 6) (b := lb) (o := lf) (n := ks.length) (c := c) kr_ kr_ (congrArg (fun q => some (Value.slice q ks.length c)) elo) rfl (by omega) (by omega)) ?_
   refine WL.gh (dj := 39) rfl rfl rfl (Hd.loadA (n := 6) (b := lb) (o := lf + (i : Int).toNat * 6) (cs := lcs) (vs := kc ks[i] va vr) kr_ rfl hlm rfl (rs_cell hlcs (by rw [hk.len]; omega) hg) ⟨_, rfl, ?_⟩)
   refine gy_ 39 rfl rfl rfl (Yd.move rfl) ?_
   refine WL.gr (dj := 39) rfl rfl rfl (Ent.val Tryz.call127 rfl rfl) (against_reads _ va vr (IsSl.of hva).one (IsSl.of hvr).one n hrt.2.1 hrt.2.2.1 _) ?_
   refine gy_ 39 rfl rfl rfl (Yd.eql rfl rfl) ?_
   refine WL.y rfl (Yd.pickT rfl rfl) ?_
   refine a_ rfl rfl ?_
   refine a_ rfl rfl ?_
   refine nt_ ?_
   refine WC.ret ?_
   refine DN.ret2 Tryz.results126 rfl rfl ?_
   refine ⟨?_, rfl⟩
   subst hpos
   refine congrArg (fun q => Value.tuple #[Value.int IntKind.i64 (pos ks n : Nat), Value.bool q]) ?_
   rcases getK_pos hck (n := n) with ⟨e1, e2⟩ | ⟨hi9, e1, e2⟩
   · rw [e1, Option.isSome_none]
     all_goals first
     | rfl
     | (have e3 := e2 (by omega)
        refine decide_eq_false fun h9 => ?_
        by_cases h5 : ks[pos ks n].num < n
        · rw [if_pos h5] at h9; omega
        · rw [if_neg h5] at h9
          by_cases h6 : n < ks[pos ks n].num
          · rw [if_pos h6] at h9; omega
          · omega)
   · rw [e2, Option.isSome_some]
     first
     | (rw [decide_eq_true_eq, if_neg (by omega), if_neg (by omega)])
     | omega
  ·iterate 8 refine gn_ 39 rfl rfl rfl rfl ?_
   refine WL.y rfl (Yd.pickF rfl rfl) ?_
   refine a_ rfl rfl ?_
   refine a_ rfl rfl ?_
   refine nt_ ?_
   refine WC.ret ?_
   refine DN.ret2 Tryz.results126 rfl rfl ?_
   refine ⟨?_, rfl⟩
   subst hpos
   refine congrArg (fun q => Value.tuple #[Value.int IntKind.i64 (pos ks n : Nat), Value.bool q]) ?_
   rcases getK_pos hck (n := n) with ⟨e1, e2⟩ | ⟨hi9, e1, e2⟩
   · rw [e1, Option.isSome_none]
     all_goals first
     | rfl
     | (have e3 := e2 (by omega)
        refine decide_eq_false fun h9 => ?_
        by_cases h5 : ks[pos ks n].num < n
        · rw [if_pos h5] at h9; omega
        · rw [if_neg h5] at h9
          by_cases h6 : n < ks[pos ks n].num
          · rw [if_pos h6] at h9; omega
          · omega)
   · rw [e2, Option.isSome_some]
     first
     | (rw [decide_eq_true_eq, if_neg (by omega), if_neg (by omega)])
     | omega
end Go.Proofs.YtkamlondepceiaaGreat

set_option linter.unusedVariables false
set_option linter.unusedSimpArgs false
set_option maxHeartbeats 2000000
namespace Go.Proofs.YtkamlondepceiaaGreat
open Go.SL
theorem find_reads (e : BitVec 32) (v : Value) (ks : List Kp) (H : List Ck) (hv : KV v ks H) (hck : chk ks) (o : BitVec 32) (s : Int) (u : Bool) (h0 : 0 ≤ s) (h : s < 16) : Reads Tryz.prog 93 [.agg #[.int .u32 e.toNat, v], .agg (keyc o s u).toArray] H (.tuple #[.int .i64 (pos ks (numb o s u) : Nat), .bool (getK ks (numb o s u)).isSome]) := by
 refine Tells.enter Tryz.func93 rfl Tryz.ntmps93 rfl ?_
 intro w0 R
 refine sr_ ?_
 refine WL.h rfl (Hd.boxA rfl fun b2 => ⟨_, rfl, ?_⟩)
 refine WL.h rfl (Hd.boxA rfl fun b3 => ⟨_, rfl, ?_⟩)
 refine a_ rfl rfl ?_
 refine a_ rfl rfl ?_
 refine nt_ ?_
 refine WC.seq ?_
 refine WC.draw 9 kr_ rfl ?_
 refine WA.quiet 9 0 rfl rfl kr_ kr_ kr_ rfl ?_
 refine WQ.y rfl (Yd.fieldAddr (k := 1) kr_ rfl) ?_
 refine WQ.rd rfl Wt.none (Rd.load1 kr_ rfl mem_ (by rfl)) ?_
 refine WQ.rd rfl Wt.none (Rd.loadAll (n := 3) kr_ rfl mem_ (by rfl)) ?_
 refine WQ.rf rfl Wt.none (Ent.func Tryz.call117 rfl) (number_reads o s u h0 h _) Sp.sn ?_
 refine WQ.rf rfl Wt.none (Ent.func Tryz.call126 rfl) (bsf_reads v ks _ (hv.mono gr_) hck (numb o s u)) Sp.sn ?_
 refine WQ.y rfl (Yd.extract rfl rfl) ?_
 refine WQ.y rfl (Yd.extract rfl rfl) ?_
 refine WQ.y rfl (Yd.assign rfl) ?_
 refine WQ.y rfl (Yd.assign rfl) ?_
 refine WQ.nil ?_
 refine WA.done kr_ ?_
 refine DN.then_normal ?_
 refine WC.ret ?_
 refine DN.fit (C := H) sp_ ?_
 refine DN.ret2 Tryz.results93 rfl rfl ?_
 exact ⟨rfl, rfl⟩
theorem own_tells (k : Kp) (va vr : Value) (H : List Ck) (hva : Bs va k.asked H) (hvr : Bs vr k.reply H) (hla : k.asked.length ≤ 1000000) (hlr : k.reply.length ≤ 1000000) : Tells Tryz.prog 96 [.agg (kc k va vr).toArray] H fun r H' => ∃ wa wr A B, r = .agg (kc k wa wr).toArray ∧ Ob 5 wa k.asked A ∧ Ob 5 wr k.reply B ∧ H' = A ++ (B ++ H) := by
 refine Tells.enter Tryz.func96 rfl Tryz.ntmps96 rfl ?_
 intro w0 R
 obtain ⟨ao, ac, rfl, hac⟩ := hva.form
 obtain ⟨ro, rc, rfl, hrc⟩ := hvr.form
 refine sr_ ?_
 refine WL.h rfl (Hd.boxA rfl fun b1 => ⟨_, rfl, ?_⟩)
 refine WL.h rfl (Hd.alloc (zs := [.int .u32 0, .int .i64 0, .bool false, .slice none 0 0, .int .i64 0, .slice none 0 0]) kr_ fun b2 => ⟨_, rfl, ?_⟩)
 refine ntsr_ ?_
 refine WL.h rfl (Hd.buildBytes (e := 5) [] kr_ kr_ kr_ rfl rfl kr_ fun b => ⟨_, rfl, ?_⟩)
 refine f_ 3 kr_ rfl rfl ?_
 refine d_ kr_ rfl mem_ (by rfl) rfl ?_
 refine WL.h rfl (Hd.appendBs (e := 5) (zs := [.int .u8 0]) kr_ kr_ rfl rfl rfl (Ob.block b [] (by simp)) sp_ (hva.mono gr_) (by simp; omega) fun wa A hA => ⟨_, rfl, ?_⟩)
 rw [List.nil_append] at hA
 obtain ⟨o1, c1, rfl, hc1⟩ := hA.form
 refine f_ 3 kr_ rfl rfl ?_
 refine WL.s (Hd.store1s kr_ rfl rfl (by rfl) fr_ (by rfl) (by first | (simp only [List.set_cons_zero, List.set_cons_succ, Nat.zero_add, Nat.add_zero, Nat.reduceAdd]; rfl) | rfl) ⟨rfl, ?_⟩)
 refine ntsr_ ?_
 refine WL.h rfl (Hd.buildBytes (e := 5) [] kr_ kr_ kr_ rfl rfl kr_ fun b => ⟨_, rfl, ?_⟩)
 refine f_ 5 kr_ rfl rfl ?_
 refine d_ kr_ rfl mem_ (by rfl) rfl ?_
 refine WL.h rfl (Hd.appendBs (e := 5) (zs := [.int .u8 0]) kr_ kr_ rfl rfl rfl (Ob.block b [] (by simp)) sp_ (hvr.mono gr_) (by simp; omega) fun wr B hB => ⟨_, rfl, ?_⟩)
 rw [List.nil_append] at hB
 obtain ⟨o2, c2, rfl, hc2⟩ := hB.form
 refine f_ 5 kr_ rfl rfl ?_
 refine WL.s (Hd.store1s kr_ rfl rfl (by rfl) fr_ (by rfl) (by first | (simp only [List.set_cons_zero, List.set_cons_succ, Nat.zero_add, Nat.add_zero, Nat.reduceAdd]; rfl) | rfl) ⟨rfl, ?_⟩)
 refine ntsr_ ?_
 refine WL.h rfl (Hd.loadAll (n := 6) kr_ rfl mem_ (by rfl) ⟨_, rfl, ?_⟩)
 refine WL.s (Hd.storeAll (n := 6) kr_ rfl rfl (by rfl) one_ fr_ (by rfl) ⟨rfl, ?_⟩)
 refine nt_ ?_
 refine WC.ret ?_
 refine DN.retCS (s := 6) (A ++ (B ++ H)) Tryz.results96 kr_ rfl mem_ (by rfl) sp_ ?_
 exact ⟨_, _, A, B, rfl, hA, hB, rfl⟩
theorem all_tells (e : BitVec 32) (v : Value) (ks : List Kp) (H : List Ck) (hv : KV v ks H) (hck : chk ks) : Tells Tryz.prog 85 [.agg #[.int .u32 e.toNat, v]] H fun r H' => ∃ w D, r = .agg #[.int .u32 e.toNat, w] ∧ FAt 5 118 w ks D ∧ H' = D ++ H := by
 refine Tells.enter Tryz.func85 rfl Tryz.ntmps85 rfl ?_
 intro w0 R
 obtain ⟨cs, hr, hk⟩ := hv
 obtain ⟨ao, c, rfl, hc⟩ := hr.form
 have h200 := hck.1
 refine sr_ ?_
 refine WL.h rfl (Hd.boxA rfl fun b1 => ⟨_, rfl, ?_⟩)
 refine WL.h rfl (Hd.alloc (zs := [.int .u32 0, .slice none 0 0]) kr_ fun b2 => ⟨_, rfl, ?_⟩)
 refine ntsr_ ?_
 refine a_ rfl rfl ?_
 refine nt_ ?_
 refine WC.seq ?_
 refine sr_ ?_
 refine f_ 1 kr_ rfl rfl ?_
 refine d_ kr_ rfl mem_ (by rfl) rfl ?_
 refine WL.y rfl (Yd.len (e := 118) kr_ rfl) ?_
 refine m_ rfl rfl ?_
 refine nt_ ?_
 refine WC.block ?_
 refine WC.loopS (fun z : Nat × Value × List Value × List Ck × List Ck => z.1 ≤ ks.length ∧ Own z.2.1 z.1 z.2.2.1 118 6 z.2.2.2.1 ∧ Kts 5 z.2.2.1 (ks.take z.1) z.2.2.2.2) (fun z : Nat × Value × List Value × List Ck × List Ck => [(9, .int .i64 (z.1 : Int)), (3, z.2.1)]) (fun z : Nat × Value × List Value × List Ck × List Ck => z.2.2.2.1 ++ (z.2.2.2.2 ++ (row b2 [.int .u32 0, .slice none 0 0] 82 :: row b1 [.int .u32 e.toNat, .slice ao ks.length c] 82 :: H))) (fun z : Nat × Value × List Value × List Ck × List Ck => ks.length - z.1) (⟨0, .slice none 0 0, [], [], []⟩) (show 0 ≤ ks.length ∧ Own (.slice none 0 0) 0 [] 118 6 [] ∧ Kts 5 [] (ks.take 0) [] from ⟨Nat.zero_le _, Own.nil _ _, by rw [List.take_zero]; exact .nil⟩) (Sx.put rfl (Sx.put rfl (sx_))) sp_ ?_
 rintro ⟨i, vl, cl, Cl, Dl⟩ hI
 replace hI : i ≤ ks.length ∧ Own vl i cl 118 6 Cl ∧ Kts 5 cl (ks.take i) Dl := hI
 obtain ⟨hi, hOl, hKt⟩ := hI
 change WC _ _ _ _ _ _ ([(9, .int .i64 (i : Int)), (3, vl)] ++ _) (Cl ++ (Dl ++ (row b2 [.int .u32 0, .slice none 0 0] 82 :: row b1 [.int .u32 e.toNat, .slice ao ks.length c] 82 :: H)))
 obtain ⟨lo, lc, rfl, hlc⟩ := hOl.form
 refine sr_ ?_
 refine WL.y rfl (Yd.lss rfl rfl) ?_
 refine nt_ ?_
 refine WC.seq ?_
 refine WC.ite rfl (fun h10 => ?_) (fun h10 => ?_)
 ·have hlt : i < ks.length := by omega
  obtain ⟨va, vr, hg, hva, hvr⟩ := hk.at i hlt
  have hrt := chk_right hck hlt
  refine WC.skip ?_
  refine ts_ ?_
  refine WC.block ?_
  refine sr_ ?_
  refine WL.elemA (e := 118) (s := 6) kr_ kr_ kr_ rfl rfl (rfl) (hr.mono gr_) (hg) (by rfl) (by omega) (hlt) rfl rfl ?_
  intro p11
  refine WL.h rfl (Hd.alloc (zs := [.int .u32 0, .int .i64 0, .bool false, .slice none 0 0, .int .i64 0, .slice none 0 0]) kr_ fun b5 => ⟨_, rfl, ?_⟩)
  refine WL.s (Hd.storeAll (n := 6) kr_ rfl rfl (by rfl) (kc_one (IsSl.of hva).one (IsSl.of hvr).one) fr_ (by rfl) ⟨rfl, ?_⟩)
  refine ntr_ ?_
  refine m_ rfl rfl ?_
  refine WL.h rfl (Hd.loadAll (n := 6) kr_ rfl mem_ (by rfl) ⟨_, rfl, ?_⟩)
  refine WL.c rfl (Ent.func Tryz.call96 rfl) (own_tells ks[i] va vr H hva hvr (by have := hrt.2.2.2.1; omega) (by have := hrt.2.2.2.2.1; omega)) (Sp.p sp_) ?_
  rintro x H1 ⟨wa, wr, A, B, rfl, hA, hB, rfl⟩
  obtain ⟨o1, c1, rfl, hc1⟩ := hA.form
  obtain ⟨o2, c2, rfl, hc2⟩ := hB.form
  refine WL.h rfl (Hd.buildA (e := 118) (sz := 6) (zs := [.int .u32 0, .int .i64 0, .bool false, .slice none 0 0, .int .i64 0, .slice none 0 0]) kr_ kr_ kr_ rfl rfl (by rfl) kr_ fun b16 => ⟨_, rfl, ?_⟩)
  refine WL.h rfl (Hd.appendRow (e := 118) (sz := 6) (bytes := 80) (zs := [.int .u32 0, .int .i64 0, .bool false, .slice none 0 0, .int .i64 0, .slice none 0 0]) kr_ kr_ rfl (by omega) rfl rfl (hOl) sp_ mem_ (by rfl) (kc_one (by rfl) (by rfl)) (by simp only [maxLen]; omega) (by omega) fun v2 C2 h2 => ⟨_, rfl, ?_⟩)
  refine a_ rfl rfl ?_
  refine WL.nil ?_
  refine DN.block_normal ?_
  refine DN.then_normal ?_
  refine WC.region ?_
  refine WL.y rfl (Yd.add rfl rfl (by omega) (by omega)) ?_
  refine m_ rfl rfl ?_
  refine WL.nil ?_
  exact DN.againS (⟨i + 1, v2, cl ++ kc ks[i] (.slice o1 ks[i].asked.length c1) (.slice o2 ks[i].reply.length c2), C2, Dl ++ (A ++ B)⟩) (show (i + 1) ≤ ks.length ∧ Own v2 (i + 1) (cl ++ kc ks[i] (.slice o1 ks[i].asked.length c1) (.slice o2 ks[i].reply.length c2)) 118 6 C2 ∧ Kts 5 (cl ++ kc ks[i] (.slice o1 ks[i].asked.length c1) (.slice o2 ks[i].reply.length c2)) (ks.take (i + 1)) (Dl ++ (A ++ B)) from ⟨by omega, h2, by rw [List.take_succ_eq_append_getElem hlt]; exact hKt.append (Kts.one' hA hB)⟩) (show ks.length - (i + 1) < ks.length - i by omega) (Sx.put rfl (Sx.put rfl (sx_))) sp_
 ·obtain rfl : i = ks.length := by omega
  rw [List.take_length] at hKt
  refine WC.exit ?_
  refine DN.then_exit ?_
  refine DN.then_exit ?_
  refine DN.block_exit ?_
  refine ts_ ?_
  refine WC.region ?_
  refine m_ rfl rfl ?_
  refine f_ 1 kr_ rfl rfl ?_
  refine WL.s (Hd.store1s kr_ rfl rfl (by rfl) fr_ (by rfl) (by first | (simp only [List.set_cons_zero, List.set_cons_succ, Nat.zero_add, Nat.add_zero, Nat.reduceAdd]; rfl) | rfl) ⟨rfl, ?_⟩)
  refine ntsr_ ?_
  refine WL.h rfl (Hd.loadAll (n := 2) kr_ rfl mem_ (by rfl) ⟨_, rfl, ?_⟩)
  refine WL.s (Hd.storeAll (n := 2) kr_ rfl rfl (by rfl) one_ fr_ (by rfl) ⟨rfl, ?_⟩)
  refine nt_ ?_
  refine WC.ret ?_
  refine DN.retCS (s := 2) (Cl ++ (Dl ++ H)) Tryz.results85 kr_ rfl mem_ (by rfl) sp_ ?_
  exact ⟨_, Cl ++ Dl, rfl, ⟨cl, Cl, Dl, hOl, hKt, rfl⟩, by rw [List.append_assoc]⟩
theorem see_tells (e : BitVec 32) (v : Value) (ks : List Kp) (H : List Ck) (hv : KV v ks H) (hl : ks.length ≤ 9223372036854775807) (x : BitVec 32) : Tells Tryz.prog 56 [.agg #[.int .u32 e.toNat, v], .int .u32 x.toNat] H fun r H' => ∃ w D, r = .tuple #[.agg #[.int .u32 (seeK e ks x).1.toNat, w], .int .i64 (seeK e ks x).2.2] ∧ FAt 5 118 w (seeK e ks x).2.1 D ∧ H' = D ++ H := by
 refine Tells.enter Tryz.func56 rfl Tryz.ntmps56 rfl ?_
 intro w0 R
 obtain ⟨ao, c, rfl, hc⟩ := hv.form
 refine sr_ ?_
 refine WL.h rfl (Hd.boxA rfl fun b2 => ⟨_, rfl, ?_⟩)
 refine WL.h rfl (Hd.alloc (zs := [.int .u32 0, .slice none 0 0]) kr_ fun b4 => ⟨_, rfl, ?_⟩)
 refine a_ rfl rfl ?_
 refine nt_ ?_
 refine WC.seq ?_
 refine WC.block ?_
 refine sr_ ?_
 refine WL.h rfl (Hd.loadAll (n := 2) kr_ rfl mem_ (by rfl) ⟨_, rfl, ?_⟩)
 refine WL.r rfl (Ent.func Tryz.call82 rfl) (check2_reads e _ ks _ (hv.mono gr_) hl) ?_
 refine WL.y rfl (Yd.neq rfl rfl) ?_
 refine a_ rfl rfl ?_
 refine nt_ ?_
 refine WC.ite rfl (fun h9 => ?_) (fun h9 => ?_)
 ·have hn : ¬ chk ks := fun h => by rw [if_pos h] at h9; exact h9 rfl
  refine sr_ ?_
  refine WL.y rfl (Yd.buildL (pl := [(0, 1), (1, 1)]) (zs := [.int .u32 0, .slice none 0 0]) (parts := []) (vs := []) (cells := [.int .u32 0, .slice none 0 0]) kr_ kr_ rfl rfl) ?_
  refine WL.s (Hd.storeAll (n := 2) kr_ rfl rfl (by rfl) one_ fr_ (by rfl) ⟨rfl, ?_⟩)
  refine a_ rfl rfl ?_
  refine nt_ ?_
  refine WC.ret ?_
  refine DN.block_ret ?_
  refine DN.then_ret ?_
  refine DN.retCT (s := 2) H Tryz.results56 kr_ rfl rfl mem_ (by rfl) sp_ ?_
  rw [show seeK e ks x = (0#32, [], 2) from if_pos hn]
  exact ⟨_, [], rfl, FAt.nil _ _, rfl⟩
 ·have hy : chk ks := Classical.byContradiction fun h => by rw [if_neg h] at h9; exact h9 (by decide)
  refine sr_ ?_
  refine m_ rfl rfl ?_
  refine f_ 0 kr_ rfl rfl ?_
  refine d_ kr_ rfl mem_ (by rfl) rfl ?_
  refine WL.y rfl (Yd.lss rfl rfl) ?_
  refine a_ rfl rfl ?_
  refine nt_ ?_
  refine WC.ite rfl (fun h11 => ?_) (fun h11 => ?_)
  ·refine sr_ ?_
   refine WL.y rfl (Yd.buildL (pl := [(0, 1), (1, 1)]) (zs := [.int .u32 0, .slice none 0 0]) (parts := []) (vs := []) (cells := [.int .u32 0, .slice none 0 0]) kr_ kr_ rfl rfl) ?_
   refine WL.s (Hd.storeAll (n := 2) kr_ rfl rfl (by rfl) one_ fr_ (by rfl) ⟨rfl, ?_⟩)
   refine a_ rfl rfl ?_
   refine nt_ ?_
   refine WC.ret ?_
   refine DN.block_ret ?_
   refine DN.then_ret ?_
   refine DN.retCT (s := 2) H Tryz.results56 kr_ rfl rfl mem_ (by rfl) sp_ ?_
   rw [show seeK e ks x = (0#32, [], 72) by unfold seeK; rw [if_neg (not_not_intro hy), if_pos (by omega)]]
   exact ⟨_, [], rfl, FAt.nil _ _, rfl⟩
  ·refine WC.skip ?_
   refine DN.block_normal ?_
   refine ts_ ?_
   refine WC.region ?_
   refine WL.h rfl (Hd.loadAll (n := 2) kr_ rfl mem_ (by rfl) ⟨_, rfl, ?_⟩)
   refine WL.c rfl (Ent.func Tryz.call85 rfl) (all_tells e _ ks H hv (by first | assumption | exact Classical.byContradiction fun h => (by rw [if_neg h] at h9; exact h9 (by decide)))) (Sp.p sp_) ?_
   rintro r2 H1 ⟨w, D, rfl, hF, rfl⟩
   obtain ⟨wo, wc, rfl⟩ := hF.form
   refine WL.s (Hd.storeAll (n := 2) kr_ rfl rfl (by rfl) one_ fr_ (by rfl) ⟨rfl, ?_⟩)
   refine ntsr_ ?_
   refine m_ rfl rfl ?_
   refine f_ 0 kr_ rfl rfl ?_
   refine WL.s (Hd.store1s kr_ rfl rfl (by rfl) fr_ (by rfl) (by first | (simp only [List.set_cons_zero, List.set_cons_succ, Nat.zero_add, Nat.add_zero, Nat.reduceAdd]; rfl) | rfl) ⟨rfl, ?_⟩)
   refine ntsr_ ?_
   refine WL.h rfl (Hd.loadAll (n := 2) kr_ rfl mem_ (by rfl) ⟨_, rfl, ?_⟩)
   refine WL.s (Hd.storeAll (n := 2) kr_ rfl rfl (by rfl) one_ fr_ (by rfl) ⟨rfl, ?_⟩)
   refine a_ rfl rfl ?_
   refine nt_ ?_
   refine WC.ret ?_
   refine DN.retCT (s := 2) (D ++ H) Tryz.results56 kr_ rfl rfl mem_ (by rfl) sp_ ?_
   rw [show seeK e ks x = (x, ks, 0) by unfold seeK; rw [if_neg (not_not_intro hy), if_neg (by omega)]]
   exact ⟨_, D, rfl, hF, rfl⟩
theorem find2_tells (e : BitVec 32) (v : Value) (ks : List Kp) (H : List Ck) (hv : KV v ks H) (hl : ks.length ≤ 9223372036854775807) (o : BitVec 32) (s : Int) (u : Bool) : Tells Tryz.prog 84 [.agg #[.int .u32 e.toNat, v], .int .u32 o.toNat, .int .i64 s, .bool u] H fun r H' => ∃ wa wr A B, r = .tuple #[.agg (kc ((findF ks o s u).getD Kp.z) wa wr).toArray, .bool (findF ks o s u).isSome] ∧ Ob 5 wa ((findF ks o s u).getD Kp.z).asked A ∧ Ob 5 wr ((findF ks o s u).getD Kp.z).reply B ∧ H' = A ++ (B ++ H) := by
 refine Tells.enter Tryz.func84 rfl Tryz.ntmps84 rfl ?_
 intro w0 R
 have hv9 := hv
 obtain ⟨cs, hr, hk⟩ := hv9
 obtain ⟨ao, c, rfl, hc⟩ := hr.form
 refine sr_ ?_
 refine WL.h rfl (Hd.boxA rfl fun b4 => ⟨_, rfl, ?_⟩)
 refine WL.h rfl (Hd.alloc (zs := [.int .u32 0, .int .i64 0, .bool false, .slice none 0 0, .int .i64 0, .slice none 0 0]) kr_ fun b8 => ⟨_, rfl, ?_⟩)
 refine a_ rfl rfl ?_
 refine nt_ ?_
 refine WC.seq ?_
 refine sr_ ?_
 refine WL.h rfl (Hd.loadAll (n := 2) kr_ rfl mem_ (by rfl) ⟨_, rfl, ?_⟩)
 refine WL.r rfl (Ent.func Tryz.call82 rfl) (check2_reads e _ ks _ (hv.mono gr_) hl) ?_
 refine WL.y rfl (Yd.neq rfl rfl) ?_
 refine m_ rfl rfl ?_
 refine WL.partP (t := 15) rfl (fun hg15 => ?_) (fun hg15 => ?_)
 ·refine gn_ 15 rfl rfl rfl rfl ?_
  refine gn_ 15 rfl rfl rfl rfl ?_
  refine WL.y rfl (Yd.pickT rfl rfl) ?_
  refine m_ rfl rfl ?_
  refine gn_ 19 rfl rfl rfl rfl ?_
  refine gn_ 19 rfl rfl rfl rfl ?_
  refine WL.y rfl (Yd.pickT rfl rfl) ?_
  refine nt_ ?_
  refine WC.yes rfl ?_
  refine sr_ ?_
  refine WL.y rfl (Yd.buildL (pl := [(0, 1), (1, 1), (2, 1), (3, 1), (4, 1), (5, 1)]) (zs := [.int .u32 0, .int .i64 0, .bool false, .slice none 0 0, .int .i64 0, .slice none 0 0]) (parts := []) (vs := []) (cells := [.int .u32 0, .int .i64 0, .bool false, .slice none 0 0, .int .i64 0, .slice none 0 0]) kr_ kr_ rfl rfl) ?_
  refine WL.s (Hd.storeAll (n := 6) kr_ rfl rfl (by rfl) one_ fr_ (by rfl) ⟨rfl, ?_⟩)
  refine a_ rfl rfl ?_
  refine nt_ ?_
  refine WC.ret ?_
  refine DN.then_ret ?_
  first | refine DN.retCT (s := 6) (A ++ (B ++ H)) Tryz.results84 kr_ rfl rfl mem_ (by rfl) sp_ ?_ | refine DN.retCT (s := 6) H Tryz.results84 kr_ rfl rfl mem_ (by rfl) sp_ ?_
  first
    | (have e9 : findF ks o s u = some ks[pos ks (numb o s u)] := by rw [hfb, hgk]
       rw [e9]
       exact ⟨_, _, A, B, rfl, hA, hB, rfl⟩)
    | (rw [hno]
       exact ⟨_, _, [], [], rfl, Ob.nil _, Ob.nil _, rfl⟩)
    | (have e9 : findF ks o s u = none := findF_no fun ⟨g1, g2, g3⟩ => by
         first
         | (simp only [if_pos g1] at hg15; revert hg15; decide)
         | (simp only [decide_eq_true_eq, decide_eq_false_iff_not] at *; omega)
       rw [e9]
       exact ⟨_, _, [], [], rfl, Ob.nil _, Ob.nil _, rfl⟩)
 ·refine gy_ 15 rfl rfl rfl (Yd.move rfl) ?_
  refine gy_ 15 rfl rfl rfl (Yd.lss rfl rfl) ?_
  refine WL.y rfl (Yd.pickF rfl rfl) ?_
  refine m_ rfl rfl ?_
  refine WL.part (t := 19) rfl (fun hg19 => ?_) (fun hg19 => ?_)
  ·refine gn_ 19 rfl rfl rfl rfl ?_
   refine gn_ 19 rfl rfl rfl rfl ?_
   refine WL.y rfl (Yd.pickT rfl rfl) ?_
   refine nt_ ?_
   refine WC.yes rfl ?_
   refine sr_ ?_
   refine WL.y rfl (Yd.buildL (pl := [(0, 1), (1, 1), (2, 1), (3, 1), (4, 1), (5, 1)]) (zs := [.int .u32 0, .int .i64 0, .bool false, .slice none 0 0, .int .i64 0, .slice none 0 0]) (parts := []) (vs := []) (cells := [.int .u32 0, .int .i64 0, .bool false, .slice none 0 0, .int .i64 0, .slice none 0 0]) kr_ kr_ rfl rfl) ?_
   refine WL.s (Hd.storeAll (n := 6) kr_ rfl rfl (by rfl) one_ fr_ (by rfl) ⟨rfl, ?_⟩)
   refine a_ rfl rfl ?_
   refine nt_ ?_
   refine WC.ret ?_
   refine DN.then_ret ?_
   first | refine DN.retCT (s := 6) (A ++ (B ++ H)) Tryz.results84 kr_ rfl rfl mem_ (by rfl) sp_ ?_ | refine DN.retCT (s := 6) H Tryz.results84 kr_ rfl rfl mem_ (by rfl) sp_ ?_
   first
     | (have e9 : findF ks o s u = some ks[pos ks (numb o s u)] := by rw [hfb, hgk]
        rw [e9]
        exact ⟨_, _, A, B, rfl, hA, hB, rfl⟩)
     | (rw [hno]
        exact ⟨_, _, [], [], rfl, Ob.nil _, Ob.nil _, rfl⟩)
     | (have e9 : findF ks o s u = none := findF_no fun ⟨g1, g2, g3⟩ => by
          first
          | (simp only [if_pos g1] at hg15; revert hg15; decide)
          | (simp only [decide_eq_true_eq, decide_eq_false_iff_not] at *; omega)
        rw [e9]
        exact ⟨_, _, [], [], rfl, Ob.nil _, Ob.nil _, rfl⟩)
  ·refine gy_ 19 rfl rfl rfl (Yd.move rfl) ?_
   refine gy_ 19 rfl rfl rfl (Yd.geq rfl rfl) ?_
   refine WL.y rfl (Yd.pickF rfl rfl) ?_
   refine nt_ ?_
   refine WC.cond rfl (fun h22 => ?_) (fun h22 => ?_)
   ·refine sr_ ?_
    refine WL.y rfl (Yd.buildL (pl := [(0, 1), (1, 1), (2, 1), (3, 1), (4, 1), (5, 1)]) (zs := [.int .u32 0, .int .i64 0, .bool false, .slice none 0 0, .int .i64 0, .slice none 0 0]) (parts := []) (vs := []) (cells := [.int .u32 0, .int .i64 0, .bool false, .slice none 0 0, .int .i64 0, .slice none 0 0]) kr_ kr_ rfl rfl) ?_
    refine WL.s (Hd.storeAll (n := 6) kr_ rfl rfl (by rfl) one_ fr_ (by rfl) ⟨rfl, ?_⟩)
    refine a_ rfl rfl ?_
    refine nt_ ?_
    refine WC.ret ?_
    refine DN.then_ret ?_
    first | refine DN.retCT (s := 6) (A ++ (B ++ H)) Tryz.results84 kr_ rfl rfl mem_ (by rfl) sp_ ?_ | refine DN.retCT (s := 6) H Tryz.results84 kr_ rfl rfl mem_ (by rfl) sp_ ?_
    first
      | (have e9 : findF ks o s u = some ks[pos ks (numb o s u)] := by rw [hfb, hgk]
         rw [e9]
         exact ⟨_, _, A, B, rfl, hA, hB, rfl⟩)
      | (rw [hno]
         exact ⟨_, _, [], [], rfl, Ob.nil _, Ob.nil _, rfl⟩)
      | (have e9 : findF ks o s u = none := findF_no fun ⟨g1, g2, g3⟩ => by
           first
           | (simp only [if_pos g1] at hg15; revert hg15; decide)
           | (simp only [decide_eq_true_eq, decide_eq_false_iff_not] at *; omega)
         rw [e9]
         exact ⟨_, _, [], [], rfl, Ob.nil _, Ob.nil _, rfl⟩)
   ·refine WC.skip ?_
    refine ts_ ?_
    refine WC.region ?_
    refine WL.h rfl (Hd.loadAll (n := 2) kr_ rfl mem_ (by rfl) ⟨_, rfl, ?_⟩)
    have hok : chk ks ∧ 0 ≤ s ∧ s < 16 := ⟨Classical.byContradiction fun h => (by simp only [if_neg h] at hg15; revert hg15; decide), by simp only [decide_eq_true_eq, decide_eq_false_iff_not] at *; omega, by simp only [decide_eq_true_eq, decide_eq_false_iff_not] at *; omega⟩
    have hfb := findF_ok (o := o) (u := u) hok.1 hok.2.1 hok.2.2
    iterate 3 refine m_ rfl rfl ?_
    refine WL.y rfl (Yd.buildL (pl := [(0, 1), (1, 1), (2, 1)]) (zs := [.int .u32 0, .int .i64 0, .bool false]) (parts := [(0, .tmp 26), (1, .tmp 27), (2, .tmp 28)]) (vs := [(0, _), (1, _), (2, _)]) (cells := [_, _, _]) kr_ kr_ rfl rfl) ?_
    refine WL.r rfl (Ent.func Tryz.call93 rfl) (find_reads e _ ks _ (hv.mono gr_) hok.1 o s u hok.2.1 hok.2.2) ?_
    refine m_ rfl rfl ?_
    refine x_ rfl rfl rfl ?_
    refine x_ rfl rfl rfl ?_
    refine a_ rfl rfl ?_
    refine a_ rfl rfl ?_
    refine nt_ ?_
    refine WC.seq ?_
    refine sr_ ?_
    refine m_ rfl rfl ?_
    refine WL.y rfl (Yd.notB rfl) ?_
    refine nt_ ?_
    refine WC.cond rfl (fun h34 => ?_) (fun h34 => ?_)
    ·have hno : findF ks o s u = none := by
       rw [hfb]
       simpa using h34
     refine sr_ ?_
     refine WL.y rfl (Yd.buildL (pl := [(0, 1), (1, 1), (2, 1), (3, 1), (4, 1), (5, 1)]) (zs := [.int .u32 0, .int .i64 0, .bool false, .slice none 0 0, .int .i64 0, .slice none 0 0]) (parts := []) (vs := []) (cells := [.int .u32 0, .int .i64 0, .bool false, .slice none 0 0, .int .i64 0, .slice none 0 0]) kr_ kr_ rfl rfl) ?_
     refine WL.s (Hd.storeAll (n := 6) kr_ rfl rfl (by rfl) one_ fr_ (by rfl) ⟨rfl, ?_⟩)
     refine a_ rfl rfl ?_
     refine nt_ ?_
     refine WC.ret ?_
     refine DN.then_ret ?_
     first | refine DN.retCT (s := 6) (A ++ (B ++ H)) Tryz.results84 kr_ rfl rfl mem_ (by rfl) sp_ ?_ | refine DN.retCT (s := 6) H Tryz.results84 kr_ rfl rfl mem_ (by rfl) sp_ ?_
     first
       | (have e9 : findF ks o s u = some ks[pos ks (numb o s u)] := by rw [hfb, hgk]
          rw [e9]
          exact ⟨_, _, A, B, rfl, hA, hB, rfl⟩)
       | (rw [hno]
          exact ⟨_, _, [], [], rfl, Ob.nil _, Ob.nil _, rfl⟩)
       | (have e9 : findF ks o s u = none := findF_no fun ⟨g1, g2, g3⟩ => by
            first
            | (simp only [if_pos g1] at hg15; revert hg15; decide)
            | (simp only [decide_eq_true_eq, decide_eq_false_iff_not] at *; omega)
          rw [e9]
          exact ⟨_, _, [], [], rfl, Ob.nil _, Ob.nil _, rfl⟩)
    ·have hso : (getK ks (numb o s u)).isSome = true := by simpa using h34
     obtain ⟨hlt, hnum, hgk⟩ : ∃ hi : pos ks (numb o s u) < ks.length, ks[pos ks (numb o s u)].num = numb o s u ∧ getK ks (numb o s u) = some ks[pos ks (numb o s u)] := by
       rcases getK_pos hok.1 (n := numb o s u) with ⟨e1, e2⟩ | h9
       · rw [e1] at hso; cases hso
       · exact h9
     refine WC.skip ?_
     refine ts_ ?_
     refine WC.region ?_
     refine f_ 1 kr_ rfl rfl ?_
     refine d_ kr_ rfl mem_ (by rfl) rfl ?_
     refine m_ rfl rfl ?_
     obtain ⟨va, vr, hg, hva, hvr⟩ := hk.at (pos ks (numb o s u)) hlt
     have hrt := chk_right hok.1 hlt
     refine WL.elemA (e := 118) (s := 6) kr_ kr_ kr_ rfl rfl (rfl) (hr.mono gr_) (hg) (by rfl) (by omega) (hlt) rfl rfl ?_
     intro p39
     refine WL.c rfl (Ent.func Tryz.call96 rfl) (own_tells ks[pos ks (numb o s u)] va vr H hva hvr (by have := hrt.2.2.2.1; omega) (by have := hrt.2.2.2.2.1; omega)) (Sp.p sp_) ?_
     rintro x H1 ⟨wa, wr, A, B, rfl, hA, hB, rfl⟩
     obtain ⟨o1, c1, rfl, hc1⟩ := hA.form
     obtain ⟨o2, c2, rfl, hc2⟩ := hB.form
     refine WL.s (Hd.storeAll (n := 6) kr_ rfl rfl (by rfl) one_ fr_ (by rfl) ⟨rfl, ?_⟩)
     refine a_ rfl rfl ?_
     refine nt_ ?_
     refine WC.ret ?_
     first | refine DN.retCT (s := 6) (A ++ (B ++ H)) Tryz.results84 kr_ rfl rfl mem_ (by rfl) sp_ ?_ | refine DN.retCT (s := 6) H Tryz.results84 kr_ rfl rfl mem_ (by rfl) sp_ ?_
     first
       | (have e9 : findF ks o s u = some ks[pos ks (numb o s u)] := by rw [hfb, hgk]
          rw [e9]
          exact ⟨_, _, A, B, rfl, hA, hB, rfl⟩)
       | (rw [hno]
          exact ⟨_, _, [], [], rfl, Ob.nil _, Ob.nil _, rfl⟩)
       | (have e9 : findF ks o s u = none := findF_no fun ⟨g1, g2, g3⟩ => by
            first
            | (simp only [if_pos g1] at hg15; revert hg15; decide)
            | (simp only [decide_eq_true_eq, decide_eq_false_iff_not] at *; omega)
          rw [e9]
          exact ⟨_, _, [], [], rfl, Ob.nil _, Ob.nil _, rfl⟩)
end Go.Proofs.YtkamlondepceiaaGreat

set_option linter.unusedVariables false
set_option linter.unusedSimpArgs false
set_option maxHeartbeats 2000000
namespace Go.Proofs.YtkamlondepceiaaGreat
open Go.SL
theorem insert_tells (v : Value) (n : Nat) (cells : List Value) (C : List Ck) (own : Own v n cells 118 6 C) (h1 : ∀ u ∈ cells, u.oneCell' = true) (hn : n ≤ 1000000) (i : Nat) (hi : i ≤ n) (rb : Nat) (x : List Value) (hx : x.length = 6) (hx1 : ∀ u ∈ x, u.oneCell' = true) : Tells Tryz.prog 95 [v, .int .i64 (i : Int), .slice (some ⟨rb, 0, none⟩) 1 1] (C ++ [row rb x 118]) fun r H' => Own r (n + 1) (cells.take (i * 6) ++ (x ++ cells.drop (i * 6))) 118 6 H' := by
 refine Tells.enter Tryz.func95 rfl Tryz.ntmps95 rfl ?_
 intro w0 R
 obtain ⟨ao, cap, rfl, hcap⟩ := own.form
 have hcl := own.len
 refine sr_ ?_
 refine a_ rfl rfl ?_
 refine ntsr_ ?_
 refine m_ rfl rfl ?_
 refine m_ rfl rfl ?_
 refine WL.y rfl (Yd.slice (i := i) (j := n) (e := 118) (s := 6) kr_ kr_ rfl ⟨_, _, rfl, rfl⟩ rfl hi hcap) ?_
 refine ntsr_ ?_
 refine m_ rfl rfl ?_
 refine WL.y rfl (Yd.len (e := 118) kr_ rfl) ?_
 refine a_ rfl rfl ?_
 refine nt_ ?_
 refine WC.seq ?_
 refine sr_ ?_
 refine m_ rfl rfl ?_
 refine WL.y rfl (Yd.eql rfl rfl) ?_
 refine WL.renamed (t := 16) (v := .bool false) rfl (congrArg Value.bool (by simp)) ?_
 refine nt_ ?_
 refine WC.no rfl ?_
 refine WC.skip ?_
 refine ts_ ?_
 refine WC.region ?_
 refine m_ rfl rfl ?_
 refine WL.y rfl (Yd.len (e := 118) kr_ rfl) ?_
 refine a_ rfl rfl ?_
 refine nt_ ?_
 refine WC.seq ?_
 refine sr_ ?_
 refine m_ rfl rfl ?_
 refine m_ rfl rfl ?_
 refine WL.y rfl (Yd.eql rfl rfl) ?_
 refine nt_ ?_
 refine WC.ite rfl (fun h22 => ?_) (fun h22 => ?_)
 ·obtain rfl : i = n := by omega
  refine sr_ ?_
  refine m_ rfl rfl ?_
  refine m_ rfl rfl ?_
  refine WL.h rfl (Hd.appendF (e := 118) (sz := 6) (bytes := 80) (zs := [.int .u32 0, .int .i64 0, .bool false, .slice none 0 0, .int .i64 0, .slice none 0 0]) kr_ kr_ rfl (by omega) rfl rfl own sp_ (.inr ⟨rb, 0, 1, x, 118, (0, 0), true, rfl, Nat.le_refl _, mem_, by simp⟩) (by omega) hx1 (by simp only [maxLen]; omega) (by omega) fun v2 C2 h2 => ⟨_, rfl, ?_⟩)
  refine a_ rfl rfl ?_
  refine nt_ ?_
  refine WC.ret ?_
  refine DN.then_ret ?_
  refine DN.fit (C := C2) sp_ ?_
  refine DN.ret1 Tryz.results95 rfl ?_
  rw [List.take_of_length_le (by omega), List.drop_of_length_le (by omega), List.append_nil]
  exact h2
 ·obtain ⟨b, cap', extra, e1, h2, h3, h4, h5, rfl⟩ : ∃ (b cap' : Nat) (extra : List Value), Value.slice ao n cap = .slice (some ⟨b, 0, none⟩) n cap' ∧ n ≤ cap' ∧ cap' ≤ maxLen ∧ cells.length = n * 6 ∧ extra.length = (cap' - n) * 6 ∧ C = [row b (cells ++ extra) 118] := by
    rcases own with ⟨_, h, _⟩ | h
    · omega
    · exact h
  simp only [Value.slice.injEq, true_and] at e1
  obtain ⟨rfl, rfl⟩ := e1
  simp only [maxLen] at h3
  have htl : (cells.take (i * 6)).length = i * 6 := by rw [List.length_take]; omega
  have hdl : (cells.drop (i * 6)).length = (n - i) * 6 := by rw [List.length_drop]; omega
  refine WC.skip ?_
  refine ts_ ?_
  refine sr_ ?_
  refine m_ rfl rfl ?_
  refine m_ rfl rfl ?_
  refine WL.y rfl (Yd.add rfl rfl (by omega) (by omega)) ?_
  refine m_ rfl rfl ?_
  refine WL.y rfl (Yd.capS (e := 118) kr_ rfl) ?_
  refine WL.y rfl (Yd.gtr rfl rfl) ?_
  refine nt_ ?_
  refine WC.ite rfl (fun h31 => ?_) (fun h31 => ?_)
  ·refine sr_ ?_
   refine m_ rfl rfl ?_
   refine m_ rfl rfl ?_
   refine WL.y rfl (Yd.sliceTo (j := i) (e := 118) (s := 6) kr_ kr_ rfl rfl rfl (by omega)) ?_
   refine m_ rfl rfl ?_
   refine m_ rfl rfl ?_
   refine WL.y rfl (Yd.add rfl rfl (by omega) (by omega)) ?_
   refine m_ rfl rfl ?_
   refine WL.y rfl (Yd.sub rfl rfl (by omega) (by omega)) ?_
   refine WL.h rfl (Hd.appendZ (i := i) (k := n + 1 - i) (olds := cells.take (i * 6)) (e := 118) (sz := 6) (bytes := 80) (zs := [.int .u32 0, .int .i64 0, .bool false, .slice none 0 0, .int .i64 0, .slice none 0 0]) kr_ Tryz.underlying3 kr_ rfl (by omega) rfl (by exact congrArg (fun q => some (Value.int .i64 q)) (by omega)) ((own.rs.upto hcl hi).mono gr_) htl (by omega) (by omega) (by simp only [maxLen]; omega) (by omega) fun b2 c2 ex2 g1 g2 g3 => ⟨_, rfl, ?_⟩)
   refine a_ rfl rfl ?_
   refine ntsr_ ?_
   refine m_ rfl rfl ?_
   refine m_ rfl rfl ?_
   refine WL.y rfl (Yd.slFrom (i := i) (e := 118) (s := 6) kr_ kr_ rfl rfl (by omega) (by omega) (by omega) (by omega)) ?_
   refine m_ rfl rfl ?_
   refine WL.h rfl (Hd.copyR (cells' := cells.take (i * 6) ++ (x ++ ex2.drop x.length)) (q := 1) (e := 118) (sz := 6) (bytes := 80) (zs := [.int .u32 0, .int .i64 0, .bool false, .slice none 0 0, .int .i64 0, .slice none 0 0]) kr_ kr_ rfl rfl fr_ (.inr ⟨rb, 0, 1, x, 118, (0, 0), true, rfl, Nat.le_refl _, mem_, by simp⟩) (by show min _ _ = _; omega) (by omega) hx1 (by rw [List.length_append]; omega) (ins_a _ _ _ _ htl) ⟨_, rfl, ?_⟩)
   refine nt_ ?_
   refine WC.seq ?_
   refine WC.draw 9 kr_ rfl ?_
   refine WA.y (i := 0) (NoPanic.then (NoPanic.then (NoPanic.body))) rfl kr_ kr_ kr_ rfl (Yd.move rfl) ?_
   refine WA.y (i := 1) (NoPanic.then (NoPanic.then (NoPanic.body))) rfl kr_ kr_ kr_ rfl (Yd.move rfl) ?_
   refine WA.y (i := 2) (NoPanic.then (NoPanic.then (NoPanic.body))) rfl kr_ kr_ kr_ rfl (Yd.move rfl) ?_
   refine WA.y (i := 3) (NoPanic.then (NoPanic.then (NoPanic.body))) rfl kr_ kr_ kr_ rfl (Yd.add rfl rfl (by omega) (by omega)) ?_
   refine WA.y (i := 4) (NoPanic.then (NoPanic.then (NoPanic.body))) rfl kr_ kr_ kr_ rfl (Yd.slFrom (i := i + 1) (e := 118) (s := 6) kr_ kr_ rfl rfl (by omega) (by omega) (by omega) (by omega)) ?_
   refine WA.y (i := 5) (NoPanic.then (NoPanic.then (NoPanic.body))) rfl kr_ kr_ kr_ rfl (Yd.move rfl) ?_
   refine WA.y (i := 6) (NoPanic.then (NoPanic.then (NoPanic.body))) rfl kr_ kr_ kr_ rfl (Yd.move rfl) ?_
   refine WA.y (i := 7) (NoPanic.then (NoPanic.then (NoPanic.body))) rfl kr_ kr_ kr_ rfl (Yd.slFrom (i := i) (e := 118) (s := 6) kr_ kr_ rfl rfl (by omega) (by omega) (by omega) (by omega)) ?_
   refine WA.one (i := 8) kr_ ?_
   refine WO.h rfl Wt.none rfl (Hd.copyR (cells' := cells.take (i * 6) ++ (x ++ (cells.drop (i * 6) ++ (ex2.drop x.length).drop (cells.drop (i * 6)).length))) (q := n - i) (news := cells.drop (i * 6)) (e := 118) (sz := 6) (bytes := 80) (zs := [.int .u32 0, .int .i64 0, .bool false, .slice none 0 0, .int .i64 0, .slice none 0 0]) kr_ kr_ rfl rfl fr_ (.inr ⟨b, i * 6, cap - i, cells ++ extra, 118, (0, 0), true, rfl, by omega, mem_, by
       rw [List.drop_append_of_le_length (by omega), List.take_append_of_le_length (by omega), List.take_of_length_le (by omega)]⟩) (by show min _ _ = _; omega) hdl (fun u hu => h1 u (List.mem_of_mem_drop hu)) (by simp only [List.length_append, List.length_drop]; omega) (ins_b _ _ _ _ _ (by omega)) ⟨_, rfl, ?_⟩)
   refine WA.done kr_ ?_
   refine ts_ ?_
   refine WC.region ?_
   refine m_ rfl rfl ?_
   refine a_ rfl rfl ?_
   refine nt_ ?_
   refine WC.ret ?_
   refine DN.then_ret ?_
   refine DN.fit (C := [row b2 (cells.take (i * 6) ++ (x ++ (cells.drop (i * 6) ++ (ex2.drop x.length).drop (cells.drop (i * 6)).length))) 118]) sp_ ?_
   refine DN.ret1 Tryz.results95 rfl ?_
   exact .inr ⟨b2, c2, (ex2.drop x.length).drop (cells.drop (i * 6)).length, by rw [show i + (n + 1 - i) = n + 1 by omega], by omega, g2, by simp only [List.length_append]; omega, by simp only [List.length_drop]; omega, by simp only [List.append_assoc]⟩
  ·refine WC.skip ?_
   refine ts_ ?_
   refine WC.region ?_
   iterate 3 refine m_ rfl rfl ?_
   refine WL.y rfl (Yd.add rfl rfl (by omega) (by omega)) ?_
   refine WL.y rfl (Yd.sliceTo (j := n + 1) (e := 118) (s := 6) kr_ kr_ rfl rfl (by omega) (by omega)) ?_
   refine a_ rfl rfl ?_
   refine nt_ ?_
   refine WC.seq ?_
   refine sr_ ?_
   iterate 4 refine m_ rfl rfl ?_
   refine WL.y rfl (Yd.add rfl rfl (by omega) (by omega)) ?_
   refine WL.y rfl (Yd.slFrom (i := i + 1) (e := 118) (s := 6) kr_ kr_ rfl rfl (by omega) (by omega) (by omega) (by omega)) ?_
   refine WL.h rfl (Hd.overF (tS := 80) (tR := 4) (e := 118) (sz := 6) Tryz.func128 kr_ kr_ kr_ kr_ kr_ kr_ rfl rfl fr_ fr_ (by intro h0; have := congrArg List.length h0; rw [List.length_append, List.length_nil] at this; omega) ⟨_, rfl, ?_⟩)
   refine WL.y rfl (Yd.notB rfl) ?_
   refine WL.renamed (t := 68) (v := .bool true) rfl (congrArg Value.bool (by rfl)) ?_
   refine nt_ ?_
   refine WC.yes rfl ?_
   refine WC.seq ?_
   refine WC.draw 9 kr_ rfl ?_
   refine WA.y (i := 0) (NoPanic.then (NoPanic.then (NoPanic.body))) rfl kr_ kr_ kr_ rfl (Yd.move rfl) ?_
   refine WA.y (i := 1) (NoPanic.then (NoPanic.then (NoPanic.body))) rfl kr_ kr_ kr_ rfl (Yd.move rfl) ?_
   refine WA.y (i := 2) (NoPanic.then (NoPanic.then (NoPanic.body))) rfl kr_ kr_ kr_ rfl (Yd.move rfl) ?_
   refine WA.y (i := 3) (NoPanic.then (NoPanic.then (NoPanic.body))) rfl kr_ kr_ kr_ rfl (Yd.add rfl rfl (by omega) (by omega)) ?_
   refine WA.y (i := 4) (NoPanic.then (NoPanic.then (NoPanic.body))) rfl kr_ kr_ kr_ rfl (Yd.slFrom (i := i + 1) (e := 118) (s := 6) kr_ kr_ rfl rfl (by omega) (by omega) (by omega) (by omega)) ?_
   refine WA.y (i := 5) (NoPanic.then (NoPanic.then (NoPanic.body))) rfl kr_ kr_ kr_ rfl (Yd.move rfl) ?_
   refine WA.y (i := 6) (NoPanic.then (NoPanic.then (NoPanic.body))) rfl kr_ kr_ kr_ rfl (Yd.move rfl) ?_
   refine WA.y (i := 7) (NoPanic.then (NoPanic.then (NoPanic.body))) rfl kr_ kr_ kr_ rfl (Yd.slFrom (i := i) (e := 118) (s := 6) kr_ kr_ rfl rfl (by omega) (by omega) (by omega) (by omega)) ?_
   refine WA.one (i := 8) kr_ ?_
   refine WO.h rfl Wt.none rfl (Hd.copyR (q := n - i) (news := cells.drop (i * 6)) (e := 118) (sz := 6) (bytes := 80) (zs := [.int .u32 0, .int .i64 0, .bool false, .slice none 0 0, .int .i64 0, .slice none 0 0]) kr_ kr_ rfl rfl fr_ (.inr ⟨b, i * 6, cap - i, cells ++ extra, 118, (0, 0), true, rfl, by omega, mem_, by
       rw [List.drop_append_of_le_length (by omega), List.take_append_of_le_length (by omega), List.take_of_length_le (by omega)]⟩) (by show min _ _ = _; omega) hdl (fun u hu => h1 u (List.mem_of_mem_drop hu)) (by simp only [List.length_append, List.length_drop]; omega) rfl ⟨_, rfl, ?_⟩)
   refine WA.done kr_ ?_
   refine ts_ ?_
   refine WC.region ?_
   refine m_ rfl rfl ?_
   refine m_ rfl rfl ?_
   refine WL.y rfl (Yd.slFrom (i := i) (e := 118) (s := 6) kr_ kr_ rfl rfl (by omega) (by omega) (by omega) (by omega)) ?_
   refine m_ rfl rfl ?_
   have hfit := show i * 6 + x.length ≤ (List.take ((i + 1) * 6) (cells ++ extra) ++ (List.drop (i * 6) cells ++ List.drop ((i + 1) * 6 + (List.drop (i * 6) cells).length) (cells ++ extra))).length by
     rw [List.length_append, List.length_take, List.length_append, hcl, h5]; omega
   have hE : (i + 1) * 6 + (cells.drop (i * 6)).length ≤ (cells.take (i * 6)).length + ((cells.drop (i * 6)).length + extra.length) := by
     rw [htl, hdl, h5]; omega
   have ho : i * 6 + x.length = (i + 1) * 6 := by rw [hx]; omega
   have hcp := ins_c (cells.take (i * 6)) x extra (cells.drop (i * 6)) (i * 6) ((i + 1) * 6) htl ho hE
   rw [← List.append_assoc (cells.take (i * 6)) (cells.drop (i * 6)) extra, List.take_append_drop] at hcp
   refine WL.h rfl (Hd.copyR (cells' := cells.take (i * 6) ++ (x ++ (cells.drop (i * 6) ++ extra.drop x.length))) (q := 1) (e := 118) (sz := 6) (bytes := 80) (zs := [.int .u32 0, .int .i64 0, .bool false, .slice none 0 0, .int .i64 0, .slice none 0 0]) kr_ kr_ rfl rfl fr_ (.inr ⟨rb, 0, 1, x, 118, (0, 0), true, rfl, Nat.le_refl _, mem_, by simp⟩) (by show min _ _ = _; omega) (by omega) hx1 hfit hcp ⟨_, rfl, ?_⟩)
   refine ntsr_ ?_
   refine m_ rfl rfl ?_
   refine a_ rfl rfl ?_
   refine nt_ ?_
   refine WC.ret ?_
   refine DN.then_ret ?_
   refine DN.fit (C := [row b (cells.take (i * 6) ++ (x ++ (cells.drop (i * 6) ++ extra.drop x.length))) 118]) sp_ ?_
   refine DN.ret1 Tryz.results95 rfl ?_
   exact .inr ⟨b, cap, extra.drop x.length, rfl, by omega, by simp only [maxLen]; omega, by simp only [List.length_append]; omega, by simp only [List.length_drop]; omega, by simp only [List.append_assoc]⟩
end Go.Proofs.YtkamlondepceiaaGreat

set_option linter.unusedVariables false
set_option linter.unusedSimpArgs false
set_option maxHeartbeats 2000000
namespace Go.Proofs.YtkamlondepceiaaGreat
open Go.SL
theorem noteBad_of {n : Nt} (h : decide ((if noteBad n then (50 : Int) else 0) ≠ 0) = true) : noteBad n = true := by
  cases e : noteBad n with
  | true => rfl
  | false => rw [e] at h; exact absurd h (by decide)
theorem ask_tells (e : BitVec 32) (v : Value) (ks : List Kp) (H : List Ck) (hv : KV v ks H) (hl : ks.length ≤ 9223372036854775807) (n : Nt) (vk vd : Value) (hvk : Bs vk n.key H) (hvd : Bs vd n.data H) : Tells Tryz.prog 55 [.agg #[.int .u32 e.toNat, v], .agg (ntc n vk vd).toArray] H fun r H' => ∃ wa wr A B, r = .tuple #[.int .i64 (askK e ks n).1, .agg (kc (askK e ks n).2.1 wa wr).toArray, .int .i64 (askK e ks n).2.2] ∧ Ob 5 wa (askK e ks n).2.1.asked A ∧ Ob 5 wr (askK e ks n).2.1.reply B ∧ H' = A ++ (B ++ H) := by
 refine Tells.enter Tryz.func55 rfl Tryz.ntmps55 rfl ?_
 intro w0 R
 obtain ⟨ao, c, rfl, hc⟩ := hv.form
 obtain ⟨ko, kcap, rfl, hkc⟩ := hvk.form
 obtain ⟨do_, dc, rfl, hdc⟩ := hvd.form
 refine sr_ ?_
 refine WL.h rfl (Hd.boxA rfl fun b2 => ⟨_, rfl, ?_⟩)
 refine WL.h rfl (Hd.boxA rfl fun b3 => ⟨_, rfl, ?_⟩)
 refine a_ rfl rfl ?_
 refine WL.h rfl (Hd.alloc (zs := [.int .u32 0, .int .i64 0, .bool false, .slice none 0 0, .int .i64 0, .slice none 0 0]) kr_ fun b5 => ⟨_, rfl, ?_⟩)
 refine a_ rfl rfl ?_
 refine nt_ ?_
 refine WC.seq ?_
 refine WC.block ?_
 refine sr_ ?_
 refine WL.h rfl (Hd.loadAll (n := 2) kr_ rfl mem_ (by rfl) ⟨_, rfl, ?_⟩)
 refine WL.r rfl (Ent.func Tryz.call82 rfl) (check2_reads e _ ks _ (hv.mono gr_) hl) ?_
 refine WL.y rfl (Yd.neq rfl rfl) ?_
 refine m_ rfl rfl ?_
 refine WL.partP (t := 15) rfl (fun hg15 => ?_) (fun hg15 => ?_)
 ·iterate 3 refine gn_ 15 rfl rfl rfl rfl ?_
  refine WL.y rfl (Yd.pickT rfl rfl) ?_
  refine m_ rfl rfl ?_
  iterate 3 refine gn_ 20 rfl rfl rfl rfl ?_
  refine WL.y rfl (Yd.pickT rfl rfl) ?_
  refine m_ rfl rfl ?_
  iterate 3 refine gn_ 25 rfl rfl rfl rfl ?_
  refine WL.y rfl (Yd.pickT rfl rfl) ?_
  refine m_ rfl rfl ?_
  iterate 3 refine gn_ 30 rfl rfl rfl rfl ?_
  refine WL.y rfl (Yd.pickT rfl rfl) ?_
  refine a_ rfl rfl ?_
  refine nt_ ?_
  refine WC.yes rfl ?_
  refine sr_ ?_
  refine WL.y rfl (Yd.buildL (pl := [(0, 1), (1, 1), (2, 1), (3, 1), (4, 1), (5, 1)]) (zs := [.int .u32 0, .int .i64 0, .bool false, .slice none 0 0, .int .i64 0, .slice none 0 0]) (parts := []) (vs := []) (cells := [.int .u32 0, .int .i64 0, .bool false, .slice none 0 0, .int .i64 0, .slice none 0 0]) kr_ kr_ rfl rfl) ?_
  refine a_ rfl rfl ?_
  refine WL.s (Hd.storeAll (n := 6) kr_ rfl rfl (by rfl) one_ fr_ (by rfl) ⟨rfl, ?_⟩)
  refine a_ rfl rfl ?_
  refine nt_ ?_
  refine WC.ret ?_
  refine DN.block_ret ?_
  refine DN.then_ret ?_
  refine DN.retTCT (s := 6) (H) Tryz.results55 kr_ rfl rfl rfl mem_ (by rfl) sp_ ?_
  have hb : askBad ks n := by
    unfold askBad
    first
    | exact .inl (fun h => by simp only [if_pos h] at hg15; exact hg15 rfl)
    | exact .inr (.inl (by simpa using hg20))
    | exact .inr (.inr (.inl (noteBad_of hg25)))
    | exact .inr (.inr (.inr (.inl (by simpa using hg30))))
    | exact .inr (.inr (.inr (.inr (by simpa using h11))))
  rw [askK_arg hb]
  exact ⟨_, _, [], [], rfl, Ob.nil _, Ob.nil _, rfl⟩
 ·refine gy_ 15 rfl rfl rfl (Yd.fieldAddr (k := 0) kr_ rfl) ?_
  refine WL.gh (dj := 15) rfl rfl rfl (Hd.load1 kr_ rfl mem_ (by rfl) ⟨_, rfl, ?_⟩)
  refine gy_ 15 rfl rfl rfl (Yd.neq rfl rfl) ?_
  refine WL.y rfl (Yd.pickF rfl rfl) ?_
  refine m_ rfl rfl ?_
  refine WL.part (t := 20) rfl (fun hg20 => ?_) (fun hg20 => ?_)
  ·iterate 3 refine gn_ 20 rfl rfl rfl rfl ?_
   refine WL.y rfl (Yd.pickT rfl rfl) ?_
   refine m_ rfl rfl ?_
   iterate 3 refine gn_ 25 rfl rfl rfl rfl ?_
   refine WL.y rfl (Yd.pickT rfl rfl) ?_
   refine m_ rfl rfl ?_
   iterate 3 refine gn_ 30 rfl rfl rfl rfl ?_
   refine WL.y rfl (Yd.pickT rfl rfl) ?_
   refine a_ rfl rfl ?_
   refine nt_ ?_
   refine WC.yes rfl ?_
   refine sr_ ?_
   refine WL.y rfl (Yd.buildL (pl := [(0, 1), (1, 1), (2, 1), (3, 1), (4, 1), (5, 1)]) (zs := [.int .u32 0, .int .i64 0, .bool false, .slice none 0 0, .int .i64 0, .slice none 0 0]) (parts := []) (vs := []) (cells := [.int .u32 0, .int .i64 0, .bool false, .slice none 0 0, .int .i64 0, .slice none 0 0]) kr_ kr_ rfl rfl) ?_
   refine a_ rfl rfl ?_
   refine WL.s (Hd.storeAll (n := 6) kr_ rfl rfl (by rfl) one_ fr_ (by rfl) ⟨rfl, ?_⟩)
   refine a_ rfl rfl ?_
   refine nt_ ?_
   refine WC.ret ?_
   refine DN.block_ret ?_
   refine DN.then_ret ?_
   refine DN.retTCT (s := 6) (H) Tryz.results55 kr_ rfl rfl rfl mem_ (by rfl) sp_ ?_
   have hb : askBad ks n := by
     unfold askBad
     first
     | exact .inl (fun h => by simp only [if_pos h] at hg15; exact hg15 rfl)
     | exact .inr (.inl (by simpa using hg20))
     | exact .inr (.inr (.inl (noteBad_of hg25)))
     | exact .inr (.inr (.inr (.inl (by simpa using hg30))))
     | exact .inr (.inr (.inr (.inr (by simpa using h11))))
   rw [askK_arg hb]
   exact ⟨_, _, [], [], rfl, Ob.nil _, Ob.nil _, rfl⟩
  ·refine WL.gh (dj := 20) rfl rfl rfl (Hd.loadAll (n := 11) kr_ rfl mem_ (by rfl) ⟨_, rfl, ?_⟩)
   refine WL.gr (dj := 20) rfl rfl rfl (Ent.func Tryz.call83 rfl) (check_reads n (.slice ko _ kcap) (.slice do_ _ dc) ⟨_, _, rfl⟩ ⟨_, _, rfl⟩ _) ?_
   refine gy_ 20 rfl rfl rfl (Yd.neq rfl rfl) ?_
   refine WL.y rfl (Yd.pickF rfl rfl) ?_
   refine m_ rfl rfl ?_
   refine WL.part (t := 25) rfl (fun hg25 => ?_) (fun hg25 => ?_)
   ·iterate 3 refine gn_ 25 rfl rfl rfl rfl ?_
    refine WL.y rfl (Yd.pickT rfl rfl) ?_
    refine m_ rfl rfl ?_
    iterate 3 refine gn_ 30 rfl rfl rfl rfl ?_
    refine WL.y rfl (Yd.pickT rfl rfl) ?_
    refine a_ rfl rfl ?_
    refine nt_ ?_
    refine WC.yes rfl ?_
    refine sr_ ?_
    refine WL.y rfl (Yd.buildL (pl := [(0, 1), (1, 1), (2, 1), (3, 1), (4, 1), (5, 1)]) (zs := [.int .u32 0, .int .i64 0, .bool false, .slice none 0 0, .int .i64 0, .slice none 0 0]) (parts := []) (vs := []) (cells := [.int .u32 0, .int .i64 0, .bool false, .slice none 0 0, .int .i64 0, .slice none 0 0]) kr_ kr_ rfl rfl) ?_
    refine a_ rfl rfl ?_
    refine WL.s (Hd.storeAll (n := 6) kr_ rfl rfl (by rfl) one_ fr_ (by rfl) ⟨rfl, ?_⟩)
    refine a_ rfl rfl ?_
    refine nt_ ?_
    refine WC.ret ?_
    refine DN.block_ret ?_
    refine DN.then_ret ?_
    refine DN.retTCT (s := 6) (H) Tryz.results55 kr_ rfl rfl rfl mem_ (by rfl) sp_ ?_
    have hb : askBad ks n := by
      unfold askBad
      first
      | exact .inl (fun h => by simp only [if_pos h] at hg15; exact hg15 rfl)
      | exact .inr (.inl (by simpa using hg20))
      | exact .inr (.inr (.inl (noteBad_of hg25)))
      | exact .inr (.inr (.inr (.inl (by simpa using hg30))))
      | exact .inr (.inr (.inr (.inr (by simpa using h11))))
    rw [askK_arg hb]
    exact ⟨_, _, [], [], rfl, Ob.nil _, Ob.nil _, rfl⟩
   ·refine gy_ 25 rfl rfl rfl (Yd.fieldAddr (k := 1) kr_ rfl) ?_
    refine WL.gh (dj := 25) rfl rfl rfl (Hd.load1 kr_ rfl mem_ (by rfl) ⟨_, rfl, ?_⟩)
    refine gy_ 25 rfl rfl rfl (Yd.eql32 _ (0#32) rfl rfl rfl rfl) ?_
    refine WL.y rfl (Yd.pickF rfl rfl) ?_
    refine m_ rfl rfl ?_
    refine WL.part (t := 30) rfl (fun hg30 => ?_) (fun hg30 => ?_)
    ·iterate 3 refine gn_ 30 rfl rfl rfl rfl ?_
     refine WL.y rfl (Yd.pickT rfl rfl) ?_
     refine a_ rfl rfl ?_
     refine nt_ ?_
     refine WC.yes rfl ?_
     refine sr_ ?_
     refine WL.y rfl (Yd.buildL (pl := [(0, 1), (1, 1), (2, 1), (3, 1), (4, 1), (5, 1)]) (zs := [.int .u32 0, .int .i64 0, .bool false, .slice none 0 0, .int .i64 0, .slice none 0 0]) (parts := []) (vs := []) (cells := [.int .u32 0, .int .i64 0, .bool false, .slice none 0 0, .int .i64 0, .slice none 0 0]) kr_ kr_ rfl rfl) ?_
     refine a_ rfl rfl ?_
     refine WL.s (Hd.storeAll (n := 6) kr_ rfl rfl (by rfl) one_ fr_ (by rfl) ⟨rfl, ?_⟩)
     refine a_ rfl rfl ?_
     refine nt_ ?_
     refine WC.ret ?_
     refine DN.block_ret ?_
     refine DN.then_ret ?_
     refine DN.retTCT (s := 6) (H) Tryz.results55 kr_ rfl rfl rfl mem_ (by rfl) sp_ ?_
     have hb : askBad ks n := by
       unfold askBad
       first
       | exact .inl (fun h => by simp only [if_pos h] at hg15; exact hg15 rfl)
       | exact .inr (.inl (by simpa using hg20))
       | exact .inr (.inr (.inl (noteBad_of hg25)))
       | exact .inr (.inr (.inr (.inl (by simpa using hg30))))
       | exact .inr (.inr (.inr (.inr (by simpa using h11))))
     rw [askK_arg hb]
     exact ⟨_, _, [], [], rfl, Ob.nil _, Ob.nil _, rfl⟩
    ·refine gy_ 30 rfl rfl rfl (Yd.fieldAddr (k := 5) kr_ rfl) ?_
     refine WL.gh (dj := 30) rfl rfl rfl (Hd.load1 kr_ rfl mem_ (by rfl) ⟨_, rfl, ?_⟩)
     refine gy_ 30 rfl rfl rfl (Yd.eql32 _ (0#32) rfl rfl rfl rfl) ?_
     refine WL.y rfl (Yd.pickF rfl rfl) ?_
     refine a_ rfl rfl ?_
     refine nt_ ?_
     refine WC.cond rfl (fun h11 => ?_) (fun h11 => ?_)
     ·refine sr_ ?_
      refine WL.y rfl (Yd.buildL (pl := [(0, 1), (1, 1), (2, 1), (3, 1), (4, 1), (5, 1)]) (zs := [.int .u32 0, .int .i64 0, .bool false, .slice none 0 0, .int .i64 0, .slice none 0 0]) (parts := []) (vs := []) (cells := [.int .u32 0, .int .i64 0, .bool false, .slice none 0 0, .int .i64 0, .slice none 0 0]) kr_ kr_ rfl rfl) ?_
      refine a_ rfl rfl ?_
      refine WL.s (Hd.storeAll (n := 6) kr_ rfl rfl (by rfl) one_ fr_ (by rfl) ⟨rfl, ?_⟩)
      refine a_ rfl rfl ?_
      refine nt_ ?_
      refine WC.ret ?_
      refine DN.block_ret ?_
      refine DN.then_ret ?_
      refine DN.retTCT (s := 6) (H) Tryz.results55 kr_ rfl rfl rfl mem_ (by rfl) sp_ ?_
      have hb : askBad ks n := by
        unfold askBad
        first
        | exact .inl (fun h => by simp only [if_pos h] at hg15; exact hg15 rfl)
        | exact .inr (.inl (by simpa using hg20))
        | exact .inr (.inr (.inl (noteBad_of hg25)))
        | exact .inr (.inr (.inr (.inl (by simpa using hg30))))
        | exact .inr (.inr (.inr (.inr (by simpa using h11))))
      rw [askK_arg hb]
      exact ⟨_, _, [], [], rfl, Ob.nil _, Ob.nil _, rfl⟩
     ·refine sr_ ?_
      have hgood : ¬ askBad ks n := by
        rintro (h | h | h | h | h)
        · simp only [if_neg h] at hg15; revert hg15; decide
        · simp [h] at hg20
        · simp [h] at hg25
        · simp [h] at hg30
        · simp [h] at h11
      have hck : chk ks := Classical.byContradiction fun h => hgood (.inl h)
      have hst := noteBad_step (n := n) (by
        cases e9 : noteBad n
        · rfl
        · exact absurd (.inr (.inr (.inl e9))) hgood)
      refine f_ 1 kr_ rfl rfl ?_
      refine d_ kr_ rfl mem_ (by rfl) rfl ?_
      refine f_ 0 kr_ rfl rfl ?_
      refine d_ kr_ rfl mem_ (by rfl) rfl ?_
      refine WL.y rfl (Yd.lss rfl rfl) ?_
      refine a_ rfl rfl ?_
      refine nt_ ?_
      refine WC.ite rfl (fun h36 => ?_) (fun h36 => ?_)
      ·refine sr_ ?_
       refine WL.y rfl (Yd.buildL (pl := [(0, 1), (1, 1), (2, 1), (3, 1), (4, 1), (5, 1)]) (zs := [.int .u32 0, .int .i64 0, .bool false, .slice none 0 0, .int .i64 0, .slice none 0 0]) (parts := []) (vs := []) (cells := [.int .u32 0, .int .i64 0, .bool false, .slice none 0 0, .int .i64 0, .slice none 0 0]) kr_ kr_ rfl rfl) ?_
       refine a_ rfl rfl ?_
       refine WL.s (Hd.storeAll (n := 6) kr_ rfl rfl (by rfl) one_ fr_ (by rfl) ⟨rfl, ?_⟩)
       refine a_ rfl rfl ?_
       refine nt_ ?_
       refine WC.ret ?_
       refine DN.block_ret ?_
       refine DN.then_ret ?_
       refine DN.retTCT (s := 6) (H) Tryz.results55 kr_ rfl rfl rfl mem_ (by rfl) sp_ ?_
       rw [askK_old hgood (by omega)]
       exact ⟨_, _, [], [], rfl, Ob.nil _, Ob.nil _, rfl⟩
      ·refine WC.skip ?_
       refine DN.block_normal ?_
       refine ts_ ?_
       refine sr_ ?_
       refine WL.h rfl (Hd.loadAll (n := 2) kr_ rfl mem_ (by rfl) ⟨_, rfl, ?_⟩)
       refine f_ 5 kr_ rfl rfl ?_
       refine d_ kr_ rfl mem_ (by rfl) rfl ?_
       refine f_ 6 kr_ rfl rfl ?_
       refine d_ kr_ rfl mem_ (by rfl) rfl ?_
       refine f_ 7 kr_ rfl rfl ?_
       refine d_ kr_ rfl mem_ (by rfl) rfl ?_
       refine WL.c rfl (Ent.func Tryz.call84 rfl) (find2_tells e _ ks H hv hl n.order n.step n.undo) (Sp.p sp_) ?_
       rintro x H1 ⟨wa, wr, A, B, rfl, hA, hB, rfl⟩
       obtain ⟨fk, hfk⟩ : ∃ q, q = findF ks n.order n.step n.undo := ⟨_, rfl⟩
       rw [← hfk] at hA hB ⊢
       rw [findF_ok hck hst.1 hst.2.1] at hfk
       obtain ⟨oa, ca, rfl, _⟩ := hA.form
       obtain ⟨or, cr, rfl, _⟩ := hB.form
       refine m_ rfl rfl ?_
       refine x_ rfl rfl rfl ?_
       refine x_ rfl rfl rfl ?_
       refine WL.h rfl (Hd.alloc (zs := [.int .u32 0, .int .i64 0, .bool false, .slice none 0 0, .int .i64 0, .slice none 0 0]) kr_ fun b7 => ⟨_, rfl, ?_⟩)
       refine WL.s (Hd.storeAll (n := 6) kr_ rfl rfl (by rfl) (kc_one rfl rfl) fr_ (by rfl) ⟨rfl, ?_⟩)
       refine a_ rfl rfl ?_
       refine ntsr_ ?_
       refine m_ rfl rfl ?_
       refine nt_ ?_
       refine WC.cond rfl (fun h54 => ?_) (fun h54 => ?_)
       ·obtain ⟨k1, rfl⟩ := Option.isSome_iff_exists.1 h54
        refine WC.seq ?_
        refine sr_ ?_
        refine f_ 3 kr_ rfl rfl ?_
        refine d_ kr_ rfl mem_ (by rfl) rfl ?_
        refine WL.h rfl (Hd.toStr (e := 5) (bs := ((some k1).getD Kp.z).asked) kr_ kr_ Tryz.underlying9 rfl (hA.bs.mono gr_) ⟨_, rfl, ?_⟩)
        refine f_ 10 kr_ rfl rfl ?_
        refine d_ kr_ rfl mem_ (by rfl) rfl ?_
        refine WL.h rfl (Hd.toStr (e := 5) (bs := n.data) kr_ kr_ Tryz.underlying9 rfl (hvd.mono gr_) ⟨_, rfl, ?_⟩)
        refine WL.y rfl (Yd.neqS rfl rfl) ?_
        refine nt_ ?_
        refine WC.ite rfl (fun h61 => ?_) (fun h61 => ?_)
        ·refine sr_ ?_
         refine WL.y rfl (Yd.buildL (pl := [(0, 1), (1, 1), (2, 1), (3, 1), (4, 1), (5, 1)]) (zs := [.int .u32 0, .int .i64 0, .bool false, .slice none 0 0, .int .i64 0, .slice none 0 0]) (parts := []) (vs := []) (cells := [.int .u32 0, .int .i64 0, .bool false, .slice none 0 0, .int .i64 0, .slice none 0 0]) kr_ kr_ rfl rfl) ?_
         refine a_ rfl rfl ?_
         refine WL.s (Hd.storeAll (n := 6) kr_ rfl rfl (by rfl) one_ fr_ (by rfl) ⟨rfl, ?_⟩)
         refine a_ rfl rfl ?_
         refine nt_ ?_
         refine WC.ret ?_
         refine DN.then_ret ?_
         refine DN.then_ret ?_
         refine DN.retTCT (s := 6) (H) Tryz.results55 kr_ rfl rfl rfl mem_ (by rfl) sp_ ?_
         rw [askK_clash hgood (by omega) hfk.symm (fun h => h61 (congrArg str h))]
         exact ⟨_, _, [], [], rfl, Ob.nil _, Ob.nil _, rfl⟩
        ·refine WC.skip ?_
         refine ts_ ?_
         refine WC.draw 4 kr_ rfl ?_
         refine WA.y (i := 1) (NoPanic.then (NoPanic.then (NoPanic.body))) rfl kr_ kr_ kr_ rfl (Yd.assign rfl) ?_
         refine WA.one (i := 0) kr_ ?_
         refine WO.h rfl Wt.none rfl (Hd.loadAll (n := 6) kr_ rfl mem_ (by rfl) ⟨_, rfl, ?_⟩)
         refine WA.one (i := 2) kr_ ?_
         refine WO.s rfl Wt.none (Hd.storeAll (n := 6) kr_ rfl rfl (by rfl) (kc_one rfl rfl) fr_ (by rfl) ⟨rfl, ?_⟩)
         refine WA.y (i := 3) (NoPanic.then (NoPanic.then (NoPanic.body))) rfl kr_ kr_ kr_ rfl (Yd.assign rfl) ?_
         refine WA.done kr_ ?_
         refine DN.then_normal ?_
         refine WC.ret ?_
         refine DN.then_ret ?_
         refine DN.retTCT (s := 6) (A ++ (B ++ H)) Tryz.results55 kr_ rfl rfl rfl mem_ (by rfl) sp_ ?_
         rw [askK_again hgood (by omega) hfk.symm (Classical.byContradiction fun h => h61 fun h9 => h (str_inj.1 h9))]
         exact ⟨_, _, A, B, rfl, hA, hB, rfl⟩
       ·obtain rfl : fk = none := by simpa using h54
        refine WC.skip ?_
        refine ts_ ?_
        refine WC.region ?_
        refine WL.h rfl (Hd.loadAll (n := 2) kr_ rfl mem_ (by rfl) ⟨_, rfl, ?_⟩)
        refine f_ 5 kr_ rfl rfl ?_
        refine d_ kr_ rfl mem_ (by rfl) rfl ?_
        refine f_ 6 kr_ rfl rfl ?_
        refine d_ kr_ rfl mem_ (by rfl) rfl ?_
        refine f_ 7 kr_ rfl rfl ?_
        refine d_ kr_ rfl mem_ (by rfl) rfl ?_
        refine WL.y rfl (Yd.notB rfl) ?_
        refine WL.c rfl (Ent.func Tryz.call84 rfl) (find2_tells e _ ks H hv hl n.order n.step (!n.undo)) (Sp.p sp_) ?_
        rintro x H1 ⟨wa2, wr2, A2, B2, rfl, hA2, hB2, rfl⟩
        obtain ⟨gk, hgk⟩ : ∃ q, q = findF ks n.order n.step (!n.undo) := ⟨_, rfl⟩
        rw [← hgk] at hA2 hB2 ⊢
        rw [findF_ok hck hst.1 hst.2.1] at hgk
        obtain ⟨oa2, ca2, rfl, _⟩ := hA2.form
        obtain ⟨or2, cr2, rfl, _⟩ := hB2.form
        refine m_ rfl rfl ?_
        refine x_ rfl rfl rfl ?_
        refine x_ rfl rfl rfl ?_
        refine WL.h rfl (Hd.alloc (zs := [.int .u32 0, .int .i64 0, .bool false, .slice none 0 0, .int .i64 0, .slice none 0 0]) kr_ fun b9 => ⟨_, rfl, ?_⟩)
        refine WL.s (Hd.storeAll (n := 6) kr_ rfl rfl (by rfl) (kc_one rfl rfl) fr_ (by rfl) ⟨rfl, ?_⟩)
        refine a_ rfl rfl ?_
        refine nt_ ?_
        refine WC.seq ?_
        refine WC.block ?_
        refine sr_ ?_
        refine f_ 7 kr_ rfl rfl ?_
        refine d_ kr_ rfl mem_ (by rfl) rfl ?_
        refine WL.y rfl (Yd.notB rfl) ?_
        refine m_ rfl rfl ?_
        refine WL.part (t := 80) rfl (fun hg80 => ?_) (fun hg80 => ?_)
        ·refine gy_ 80 rfl rfl rfl (Yd.move rfl) ?_
         refine WL.y rfl (Yd.pickT rfl rfl) ?_
         refine a_ rfl rfl ?_
         refine nt_ ?_
         refine WC.cond rfl (fun h76 => ?_) (fun h76 => ?_)
         ·refine sr_ ?_
          refine WL.y rfl (Yd.buildL (pl := [(0, 1), (1, 1), (2, 1), (3, 1), (4, 1), (5, 1)]) (zs := [.int .u32 0, .int .i64 0, .bool false, .slice none 0 0, .int .i64 0, .slice none 0 0]) (parts := []) (vs := []) (cells := [.int .u32 0, .int .i64 0, .bool false, .slice none 0 0, .int .i64 0, .slice none 0 0]) kr_ kr_ rfl rfl) ?_
          refine a_ rfl rfl ?_
          refine WL.s (Hd.storeAll (n := 6) kr_ rfl rfl (by rfl) one_ fr_ (by rfl) ⟨rfl, ?_⟩)
          refine a_ rfl rfl ?_
          refine nt_ ?_
          refine WC.ret ?_
          refine DN.block_ret ?_
          refine DN.then_ret ?_
          refine DN.retTCT (s := 6) (H) Tryz.results55 kr_ rfl rfl rfl mem_ (by rfl) sp_ ?_
          first
          | (have e9 : askK e ks n = (3, Kp.z, 0) := by rw [askK_two hgood (by omega) hfk.symm hgk]; exact if_pos ⟨by simpa using hg80, h76⟩
             rw [e9]
             exact ⟨_, _, [], [], rfl, Ob.nil _, Ob.nil _, rfl⟩)
          | (have e9 : askK e ks n = (4, Kp.z, 0) := by
               rw [askK_two hgood (by omega) hfk.symm hgk, if_neg (by rintro ⟨h5, h6⟩; rw [hg87] at h5; cases h5)]
               first
               | exact if_pos ⟨hg87, .inl (by simpa using hg90)⟩
               | exact if_pos ⟨hg87, .inr (by simpa using h84)⟩
             rw [e9]
             exact ⟨_, _, [], [], rfl, Ob.nil _, Ob.nil _, rfl⟩)
          | (have e9 : askK e ks n = (1, Kp.z, 0) := by
               rw [askK_two hgood (by omega) hfk.symm hgk]
               first
               | rw [if_neg (by rintro ⟨h5, h6⟩; rw [hg87] at h5; cases h5), if_neg (by
                   rintro ⟨h5, h6⟩
                   exact h6.elim (fun h6 => by rw [h6] at hg90; exact absurd hg90 (by decide)) (fun h6 => absurd h6 (by simpa using h84)))]
               | rw [if_neg (by
                   rintro ⟨h5, h6⟩
                   first
                   | (rw [h6] at h76; exact absurd h76 (by decide))
                   | (rw [h5] at hg80; exact absurd hg80 (by decide))), if_neg (by rintro ⟨h5, h6⟩; rw [hg87] at h5; cases h5)]
             rw [e9]
             exact ⟨_, _, [], [], rfl, Ob.nil _, Ob.nil _, rfl⟩)
         ·refine sr_ ?_
          refine f_ 7 kr_ rfl rfl ?_
          refine d_ kr_ rfl mem_ (by rfl) rfl ?_
          refine m_ rfl rfl ?_
          refine WL.part (t := 87) rfl (fun hg87 => ?_) (fun hg87 => ?_)
          ·refine gy_ 87 rfl rfl rfl (Yd.move rfl) ?_
           refine gy_ 87 rfl rfl rfl (Yd.notB rfl) ?_
           refine gy_ 87 rfl rfl rfl (Yd.move rfl) ?_
           refine WL.part (t := 90) rfl (fun hg90 => ?_) (fun hg90 => ?_)
           ·iterate 3 refine gn_ 90 rfl rfl rfl rfl ?_
            refine gy_ 87 rfl rfl rfl (Yd.pickT rfl rfl) ?_
            refine WL.y rfl (Yd.pickT rfl rfl) ?_
            refine a_ rfl rfl ?_
            refine nt_ ?_
            refine WC.yes rfl ?_
            refine sr_ ?_
            refine WL.y rfl (Yd.buildL (pl := [(0, 1), (1, 1), (2, 1), (3, 1), (4, 1), (5, 1)]) (zs := [.int .u32 0, .int .i64 0, .bool false, .slice none 0 0, .int .i64 0, .slice none 0 0]) (parts := []) (vs := []) (cells := [.int .u32 0, .int .i64 0, .bool false, .slice none 0 0, .int .i64 0, .slice none 0 0]) kr_ kr_ rfl rfl) ?_
            refine a_ rfl rfl ?_
            refine WL.s (Hd.storeAll (n := 6) kr_ rfl rfl (by rfl) one_ fr_ (by rfl) ⟨rfl, ?_⟩)
            refine a_ rfl rfl ?_
            refine nt_ ?_
            refine WC.ret ?_
            refine DN.block_ret ?_
            refine DN.then_ret ?_
            refine DN.retTCT (s := 6) (H) Tryz.results55 kr_ rfl rfl rfl mem_ (by rfl) sp_ ?_
            first
            | (have e9 : askK e ks n = (3, Kp.z, 0) := by rw [askK_two hgood (by omega) hfk.symm hgk]; exact if_pos ⟨by simpa using hg80, h76⟩
               rw [e9]
               exact ⟨_, _, [], [], rfl, Ob.nil _, Ob.nil _, rfl⟩)
            | (have e9 : askK e ks n = (4, Kp.z, 0) := by
                 rw [askK_two hgood (by omega) hfk.symm hgk, if_neg (by rintro ⟨h5, h6⟩; rw [hg87] at h5; cases h5)]
                 first
                 | exact if_pos ⟨hg87, .inl (by simpa using hg90)⟩
                 | exact if_pos ⟨hg87, .inr (by simpa using h84)⟩
               rw [e9]
               exact ⟨_, _, [], [], rfl, Ob.nil _, Ob.nil _, rfl⟩)
            | (have e9 : askK e ks n = (1, Kp.z, 0) := by
                 rw [askK_two hgood (by omega) hfk.symm hgk]
                 first
                 | rw [if_neg (by rintro ⟨h5, h6⟩; rw [hg87] at h5; cases h5), if_neg (by
                     rintro ⟨h5, h6⟩
                     exact h6.elim (fun h6 => by rw [h6] at hg90; exact absurd hg90 (by decide)) (fun h6 => absurd h6 (by simpa using h84)))]
                 | rw [if_neg (by
                     rintro ⟨h5, h6⟩
                     first
                     | (rw [h6] at h76; exact absurd h76 (by decide))
                     | (rw [h5] at hg80; exact absurd hg80 (by decide))), if_neg (by rintro ⟨h5, h6⟩; rw [hg87] at h5; cases h5)]
               rw [e9]
               exact ⟨_, _, [], [], rfl, Ob.nil _, Ob.nil _, rfl⟩)
           ·refine gy_ 90 rfl rfl rfl (Yd.fieldAddr (k := 4) kr_ rfl) ?_
            refine WL.gh (dj := 90) rfl rfl rfl (Hd.load1 kr_ rfl mem_ (by rfl) ⟨_, rfl, ?_⟩)
            refine gy_ 90 rfl rfl rfl (Yd.eql rfl rfl) ?_
            refine gy_ 87 rfl rfl rfl (Yd.pickF rfl rfl) ?_
            refine WL.y rfl (Yd.pickT rfl rfl) ?_
            refine a_ rfl rfl ?_
            refine nt_ ?_
            refine WC.cond rfl (fun h84 => ?_) (fun h84 => ?_)
            ·refine sr_ ?_
             refine WL.y rfl (Yd.buildL (pl := [(0, 1), (1, 1), (2, 1), (3, 1), (4, 1), (5, 1)]) (zs := [.int .u32 0, .int .i64 0, .bool false, .slice none 0 0, .int .i64 0, .slice none 0 0]) (parts := []) (vs := []) (cells := [.int .u32 0, .int .i64 0, .bool false, .slice none 0 0, .int .i64 0, .slice none 0 0]) kr_ kr_ rfl rfl) ?_
             refine a_ rfl rfl ?_
             refine WL.s (Hd.storeAll (n := 6) kr_ rfl rfl (by rfl) one_ fr_ (by rfl) ⟨rfl, ?_⟩)
             refine a_ rfl rfl ?_
             refine nt_ ?_
             refine WC.ret ?_
             refine DN.block_ret ?_
             refine DN.then_ret ?_
             refine DN.retTCT (s := 6) (H) Tryz.results55 kr_ rfl rfl rfl mem_ (by rfl) sp_ ?_
             first
             | (have e9 : askK e ks n = (3, Kp.z, 0) := by rw [askK_two hgood (by omega) hfk.symm hgk]; exact if_pos ⟨by simpa using hg80, h76⟩
                rw [e9]
                exact ⟨_, _, [], [], rfl, Ob.nil _, Ob.nil _, rfl⟩)
             | (have e9 : askK e ks n = (4, Kp.z, 0) := by
                  rw [askK_two hgood (by omega) hfk.symm hgk, if_neg (by rintro ⟨h5, h6⟩; rw [hg87] at h5; cases h5)]
                  first
                  | exact if_pos ⟨hg87, .inl (by simpa using hg90)⟩
                  | exact if_pos ⟨hg87, .inr (by simpa using h84)⟩
                rw [e9]
                exact ⟨_, _, [], [], rfl, Ob.nil _, Ob.nil _, rfl⟩)
             | (have e9 : askK e ks n = (1, Kp.z, 0) := by
                  rw [askK_two hgood (by omega) hfk.symm hgk]
                  first
                  | rw [if_neg (by rintro ⟨h5, h6⟩; rw [hg87] at h5; cases h5), if_neg (by
                      rintro ⟨h5, h6⟩
                      exact h6.elim (fun h6 => by rw [h6] at hg90; exact absurd hg90 (by decide)) (fun h6 => absurd h6 (by simpa using h84)))]
                  | rw [if_neg (by
                      rintro ⟨h5, h6⟩
                      first
                      | (rw [h6] at h76; exact absurd h76 (by decide))
                      | (rw [h5] at hg80; exact absurd hg80 (by decide))), if_neg (by rintro ⟨h5, h6⟩; rw [hg87] at h5; cases h5)]
                rw [e9]
                exact ⟨_, _, [], [], rfl, Ob.nil _, Ob.nil _, rfl⟩)
            ·refine WC.skip ?_
             refine DN.block_normal ?_
             refine ts_ ?_
             refine WC.region ?_
             refine WL.y rfl (Yd.buildL (pl := [(0, 1), (1, 1), (2, 1), (3, 1), (4, 1), (5, 1)]) (zs := [.int .u32 0, .int .i64 0, .bool false, .slice none 0 0, .int .i64 0, .slice none 0 0]) (parts := []) (vs := []) (cells := [.int .u32 0, .int .i64 0, .bool false, .slice none 0 0, .int .i64 0, .slice none 0 0]) kr_ kr_ rfl rfl) ?_
             refine a_ rfl rfl ?_
             refine WL.s (Hd.storeAll (n := 6) kr_ rfl rfl (by rfl) one_ fr_ (by rfl) ⟨rfl, ?_⟩)
             refine a_ rfl rfl ?_
             refine nt_ ?_
             refine WC.ret ?_
             refine DN.retTCT (s := 6) (H) Tryz.results55 kr_ rfl rfl rfl mem_ (by rfl) sp_ ?_
             first
             | (have e9 : askK e ks n = (3, Kp.z, 0) := by rw [askK_two hgood (by omega) hfk.symm hgk]; exact if_pos ⟨by simpa using hg80, h76⟩
                rw [e9]
                exact ⟨_, _, [], [], rfl, Ob.nil _, Ob.nil _, rfl⟩)
             | (have e9 : askK e ks n = (4, Kp.z, 0) := by
                  rw [askK_two hgood (by omega) hfk.symm hgk, if_neg (by rintro ⟨h5, h6⟩; rw [hg87] at h5; cases h5)]
                  first
                  | exact if_pos ⟨hg87, .inl (by simpa using hg90)⟩
                  | exact if_pos ⟨hg87, .inr (by simpa using h84)⟩
                rw [e9]
                exact ⟨_, _, [], [], rfl, Ob.nil _, Ob.nil _, rfl⟩)
             | (have e9 : askK e ks n = (1, Kp.z, 0) := by
                  rw [askK_two hgood (by omega) hfk.symm hgk]
                  first
                  | rw [if_neg (by rintro ⟨h5, h6⟩; rw [hg87] at h5; cases h5), if_neg (by
                      rintro ⟨h5, h6⟩
                      exact h6.elim (fun h6 => by rw [h6] at hg90; exact absurd hg90 (by decide)) (fun h6 => absurd h6 (by simpa using h84)))]
                  | rw [if_neg (by
                      rintro ⟨h5, h6⟩
                      first
                      | (rw [h6] at h76; exact absurd h76 (by decide))
                      | (rw [h5] at hg80; exact absurd hg80 (by decide))), if_neg (by rintro ⟨h5, h6⟩; rw [hg87] at h5; cases h5)]
                rw [e9]
                exact ⟨_, _, [], [], rfl, Ob.nil _, Ob.nil _, rfl⟩)
          ·iterate 3 refine gn_ 87 rfl rfl rfl rfl ?_
           iterate 3 refine gu_ 90 rfl rfl rfl ?_
           refine gn_ 87 rfl rfl rfl rfl ?_
           refine WL.y rfl (Yd.pickF rfl rfl) ?_
           refine a_ rfl rfl ?_
           refine nt_ ?_
           refine WC.no rfl ?_
           refine WC.skip ?_
           refine DN.block_normal ?_
           refine ts_ ?_
           refine WC.region ?_
           refine WL.y rfl (Yd.buildL (pl := [(0, 1), (1, 1), (2, 1), (3, 1), (4, 1), (5, 1)]) (zs := [.int .u32 0, .int .i64 0, .bool false, .slice none 0 0, .int .i64 0, .slice none 0 0]) (parts := []) (vs := []) (cells := [.int .u32 0, .int .i64 0, .bool false, .slice none 0 0, .int .i64 0, .slice none 0 0]) kr_ kr_ rfl rfl) ?_
           refine a_ rfl rfl ?_
           refine WL.s (Hd.storeAll (n := 6) kr_ rfl rfl (by rfl) one_ fr_ (by rfl) ⟨rfl, ?_⟩)
           refine a_ rfl rfl ?_
           refine nt_ ?_
           refine WC.ret ?_
           refine DN.retTCT (s := 6) (H) Tryz.results55 kr_ rfl rfl rfl mem_ (by rfl) sp_ ?_
           first
           | (have e9 : askK e ks n = (3, Kp.z, 0) := by rw [askK_two hgood (by omega) hfk.symm hgk]; exact if_pos ⟨by simpa using hg80, h76⟩
              rw [e9]
              exact ⟨_, _, [], [], rfl, Ob.nil _, Ob.nil _, rfl⟩)
           | (have e9 : askK e ks n = (4, Kp.z, 0) := by
                rw [askK_two hgood (by omega) hfk.symm hgk, if_neg (by rintro ⟨h5, h6⟩; rw [hg87] at h5; cases h5)]
                first
                | exact if_pos ⟨hg87, .inl (by simpa using hg90)⟩
                | exact if_pos ⟨hg87, .inr (by simpa using h84)⟩
              rw [e9]
              exact ⟨_, _, [], [], rfl, Ob.nil _, Ob.nil _, rfl⟩)
           | (have e9 : askK e ks n = (1, Kp.z, 0) := by
                rw [askK_two hgood (by omega) hfk.symm hgk]
                first
                | rw [if_neg (by rintro ⟨h5, h6⟩; rw [hg87] at h5; cases h5), if_neg (by
                    rintro ⟨h5, h6⟩
                    exact h6.elim (fun h6 => by rw [h6] at hg90; exact absurd hg90 (by decide)) (fun h6 => absurd h6 (by simpa using h84)))]
                | rw [if_neg (by
                    rintro ⟨h5, h6⟩
                    first
                    | (rw [h6] at h76; exact absurd h76 (by decide))
                    | (rw [h5] at hg80; exact absurd hg80 (by decide))), if_neg (by rintro ⟨h5, h6⟩; rw [hg87] at h5; cases h5)]
              rw [e9]
              exact ⟨_, _, [], [], rfl, Ob.nil _, Ob.nil _, rfl⟩)
        ·refine gn_ 80 rfl rfl rfl rfl ?_
         refine WL.y rfl (Yd.pickF rfl rfl) ?_
         refine a_ rfl rfl ?_
         refine nt_ ?_
         refine WC.no rfl ?_
         refine sr_ ?_
         refine f_ 7 kr_ rfl rfl ?_
         refine d_ kr_ rfl mem_ (by rfl) rfl ?_
         refine m_ rfl rfl ?_
         refine WL.part (t := 87) rfl (fun hg87 => ?_) (fun hg87 => ?_)
         ·refine gy_ 87 rfl rfl rfl (Yd.move rfl) ?_
          refine gy_ 87 rfl rfl rfl (Yd.notB rfl) ?_
          refine gy_ 87 rfl rfl rfl (Yd.move rfl) ?_
          refine WL.part (t := 90) rfl (fun hg90 => ?_) (fun hg90 => ?_)
          ·iterate 3 refine gn_ 90 rfl rfl rfl rfl ?_
           refine gy_ 87 rfl rfl rfl (Yd.pickT rfl rfl) ?_
           refine WL.y rfl (Yd.pickT rfl rfl) ?_
           refine a_ rfl rfl ?_
           refine nt_ ?_
           refine WC.yes rfl ?_
           refine sr_ ?_
           refine WL.y rfl (Yd.buildL (pl := [(0, 1), (1, 1), (2, 1), (3, 1), (4, 1), (5, 1)]) (zs := [.int .u32 0, .int .i64 0, .bool false, .slice none 0 0, .int .i64 0, .slice none 0 0]) (parts := []) (vs := []) (cells := [.int .u32 0, .int .i64 0, .bool false, .slice none 0 0, .int .i64 0, .slice none 0 0]) kr_ kr_ rfl rfl) ?_
           refine a_ rfl rfl ?_
           refine WL.s (Hd.storeAll (n := 6) kr_ rfl rfl (by rfl) one_ fr_ (by rfl) ⟨rfl, ?_⟩)
           refine a_ rfl rfl ?_
           refine nt_ ?_
           refine WC.ret ?_
           refine DN.block_ret ?_
           refine DN.then_ret ?_
           refine DN.retTCT (s := 6) (H) Tryz.results55 kr_ rfl rfl rfl mem_ (by rfl) sp_ ?_
           first
           | (have e9 : askK e ks n = (3, Kp.z, 0) := by rw [askK_two hgood (by omega) hfk.symm hgk]; exact if_pos ⟨by simpa using hg80, h76⟩
              rw [e9]
              exact ⟨_, _, [], [], rfl, Ob.nil _, Ob.nil _, rfl⟩)
           | (have e9 : askK e ks n = (4, Kp.z, 0) := by
                rw [askK_two hgood (by omega) hfk.symm hgk, if_neg (by rintro ⟨h5, h6⟩; rw [hg87] at h5; cases h5)]
                first
                | exact if_pos ⟨hg87, .inl (by simpa using hg90)⟩
                | exact if_pos ⟨hg87, .inr (by simpa using h84)⟩
              rw [e9]
              exact ⟨_, _, [], [], rfl, Ob.nil _, Ob.nil _, rfl⟩)
           | (have e9 : askK e ks n = (1, Kp.z, 0) := by
                rw [askK_two hgood (by omega) hfk.symm hgk]
                first
                | rw [if_neg (by rintro ⟨h5, h6⟩; rw [hg87] at h5; cases h5), if_neg (by
                    rintro ⟨h5, h6⟩
                    exact h6.elim (fun h6 => by rw [h6] at hg90; exact absurd hg90 (by decide)) (fun h6 => absurd h6 (by simpa using h84)))]
                | rw [if_neg (by
                    rintro ⟨h5, h6⟩
                    first
                    | (rw [h6] at h76; exact absurd h76 (by decide))
                    | (rw [h5] at hg80; exact absurd hg80 (by decide))), if_neg (by rintro ⟨h5, h6⟩; rw [hg87] at h5; cases h5)]
              rw [e9]
              exact ⟨_, _, [], [], rfl, Ob.nil _, Ob.nil _, rfl⟩)
          ·refine gy_ 90 rfl rfl rfl (Yd.fieldAddr (k := 4) kr_ rfl) ?_
           refine WL.gh (dj := 90) rfl rfl rfl (Hd.load1 kr_ rfl mem_ (by rfl) ⟨_, rfl, ?_⟩)
           refine gy_ 90 rfl rfl rfl (Yd.eql rfl rfl) ?_
           refine gy_ 87 rfl rfl rfl (Yd.pickF rfl rfl) ?_
           refine WL.y rfl (Yd.pickT rfl rfl) ?_
           refine a_ rfl rfl ?_
           refine nt_ ?_
           refine WC.cond rfl (fun h84 => ?_) (fun h84 => ?_)
           ·refine sr_ ?_
            refine WL.y rfl (Yd.buildL (pl := [(0, 1), (1, 1), (2, 1), (3, 1), (4, 1), (5, 1)]) (zs := [.int .u32 0, .int .i64 0, .bool false, .slice none 0 0, .int .i64 0, .slice none 0 0]) (parts := []) (vs := []) (cells := [.int .u32 0, .int .i64 0, .bool false, .slice none 0 0, .int .i64 0, .slice none 0 0]) kr_ kr_ rfl rfl) ?_
            refine a_ rfl rfl ?_
            refine WL.s (Hd.storeAll (n := 6) kr_ rfl rfl (by rfl) one_ fr_ (by rfl) ⟨rfl, ?_⟩)
            refine a_ rfl rfl ?_
            refine nt_ ?_
            refine WC.ret ?_
            refine DN.block_ret ?_
            refine DN.then_ret ?_
            refine DN.retTCT (s := 6) (H) Tryz.results55 kr_ rfl rfl rfl mem_ (by rfl) sp_ ?_
            first
            | (have e9 : askK e ks n = (3, Kp.z, 0) := by rw [askK_two hgood (by omega) hfk.symm hgk]; exact if_pos ⟨by simpa using hg80, h76⟩
               rw [e9]
               exact ⟨_, _, [], [], rfl, Ob.nil _, Ob.nil _, rfl⟩)
            | (have e9 : askK e ks n = (4, Kp.z, 0) := by
                 rw [askK_two hgood (by omega) hfk.symm hgk, if_neg (by rintro ⟨h5, h6⟩; rw [hg87] at h5; cases h5)]
                 first
                 | exact if_pos ⟨hg87, .inl (by simpa using hg90)⟩
                 | exact if_pos ⟨hg87, .inr (by simpa using h84)⟩
               rw [e9]
               exact ⟨_, _, [], [], rfl, Ob.nil _, Ob.nil _, rfl⟩)
            | (have e9 : askK e ks n = (1, Kp.z, 0) := by
                 rw [askK_two hgood (by omega) hfk.symm hgk]
                 first
                 | rw [if_neg (by rintro ⟨h5, h6⟩; rw [hg87] at h5; cases h5), if_neg (by
                     rintro ⟨h5, h6⟩
                     exact h6.elim (fun h6 => by rw [h6] at hg90; exact absurd hg90 (by decide)) (fun h6 => absurd h6 (by simpa using h84)))]
                 | rw [if_neg (by
                     rintro ⟨h5, h6⟩
                     first
                     | (rw [h6] at h76; exact absurd h76 (by decide))
                     | (rw [h5] at hg80; exact absurd hg80 (by decide))), if_neg (by rintro ⟨h5, h6⟩; rw [hg87] at h5; cases h5)]
               rw [e9]
               exact ⟨_, _, [], [], rfl, Ob.nil _, Ob.nil _, rfl⟩)
           ·refine WC.skip ?_
            refine DN.block_normal ?_
            refine ts_ ?_
            refine WC.region ?_
            refine WL.y rfl (Yd.buildL (pl := [(0, 1), (1, 1), (2, 1), (3, 1), (4, 1), (5, 1)]) (zs := [.int .u32 0, .int .i64 0, .bool false, .slice none 0 0, .int .i64 0, .slice none 0 0]) (parts := []) (vs := []) (cells := [.int .u32 0, .int .i64 0, .bool false, .slice none 0 0, .int .i64 0, .slice none 0 0]) kr_ kr_ rfl rfl) ?_
            refine a_ rfl rfl ?_
            refine WL.s (Hd.storeAll (n := 6) kr_ rfl rfl (by rfl) one_ fr_ (by rfl) ⟨rfl, ?_⟩)
            refine a_ rfl rfl ?_
            refine nt_ ?_
            refine WC.ret ?_
            refine DN.retTCT (s := 6) (H) Tryz.results55 kr_ rfl rfl rfl mem_ (by rfl) sp_ ?_
            first
            | (have e9 : askK e ks n = (3, Kp.z, 0) := by rw [askK_two hgood (by omega) hfk.symm hgk]; exact if_pos ⟨by simpa using hg80, h76⟩
               rw [e9]
               exact ⟨_, _, [], [], rfl, Ob.nil _, Ob.nil _, rfl⟩)
            | (have e9 : askK e ks n = (4, Kp.z, 0) := by
                 rw [askK_two hgood (by omega) hfk.symm hgk, if_neg (by rintro ⟨h5, h6⟩; rw [hg87] at h5; cases h5)]
                 first
                 | exact if_pos ⟨hg87, .inl (by simpa using hg90)⟩
                 | exact if_pos ⟨hg87, .inr (by simpa using h84)⟩
               rw [e9]
               exact ⟨_, _, [], [], rfl, Ob.nil _, Ob.nil _, rfl⟩)
            | (have e9 : askK e ks n = (1, Kp.z, 0) := by
                 rw [askK_two hgood (by omega) hfk.symm hgk]
                 first
                 | rw [if_neg (by rintro ⟨h5, h6⟩; rw [hg87] at h5; cases h5), if_neg (by
                     rintro ⟨h5, h6⟩
                     exact h6.elim (fun h6 => by rw [h6] at hg90; exact absurd hg90 (by decide)) (fun h6 => absurd h6 (by simpa using h84)))]
                 | rw [if_neg (by
                     rintro ⟨h5, h6⟩
                     first
                     | (rw [h6] at h76; exact absurd h76 (by decide))
                     | (rw [h5] at hg80; exact absurd hg80 (by decide))), if_neg (by rintro ⟨h5, h6⟩; rw [hg87] at h5; cases h5)]
               rw [e9]
               exact ⟨_, _, [], [], rfl, Ob.nil _, Ob.nil _, rfl⟩)
         ·iterate 3 refine gn_ 87 rfl rfl rfl rfl ?_
          iterate 3 refine gu_ 90 rfl rfl rfl ?_
          refine gn_ 87 rfl rfl rfl rfl ?_
          refine WL.y rfl (Yd.pickF rfl rfl) ?_
          refine a_ rfl rfl ?_
          refine nt_ ?_
          refine WC.no rfl ?_
          refine WC.skip ?_
          refine DN.block_normal ?_
          refine ts_ ?_
          refine WC.region ?_
          refine WL.y rfl (Yd.buildL (pl := [(0, 1), (1, 1), (2, 1), (3, 1), (4, 1), (5, 1)]) (zs := [.int .u32 0, .int .i64 0, .bool false, .slice none 0 0, .int .i64 0, .slice none 0 0]) (parts := []) (vs := []) (cells := [.int .u32 0, .int .i64 0, .bool false, .slice none 0 0, .int .i64 0, .slice none 0 0]) kr_ kr_ rfl rfl) ?_
          refine a_ rfl rfl ?_
          refine WL.s (Hd.storeAll (n := 6) kr_ rfl rfl (by rfl) one_ fr_ (by rfl) ⟨rfl, ?_⟩)
          refine a_ rfl rfl ?_
          refine nt_ ?_
          refine WC.ret ?_
          refine DN.retTCT (s := 6) (H) Tryz.results55 kr_ rfl rfl rfl mem_ (by rfl) sp_ ?_
          first
          | (have e9 : askK e ks n = (3, Kp.z, 0) := by rw [askK_two hgood (by omega) hfk.symm hgk]; exact if_pos ⟨by simpa using hg80, h76⟩
             rw [e9]
             exact ⟨_, _, [], [], rfl, Ob.nil _, Ob.nil _, rfl⟩)
          | (have e9 : askK e ks n = (4, Kp.z, 0) := by
               rw [askK_two hgood (by omega) hfk.symm hgk, if_neg (by rintro ⟨h5, h6⟩; rw [hg87] at h5; cases h5)]
               first
               | exact if_pos ⟨hg87, .inl (by simpa using hg90)⟩
               | exact if_pos ⟨hg87, .inr (by simpa using h84)⟩
             rw [e9]
             exact ⟨_, _, [], [], rfl, Ob.nil _, Ob.nil _, rfl⟩)
          | (have e9 : askK e ks n = (1, Kp.z, 0) := by
               rw [askK_two hgood (by omega) hfk.symm hgk]
               first
               | rw [if_neg (by rintro ⟨h5, h6⟩; rw [hg87] at h5; cases h5), if_neg (by
                   rintro ⟨h5, h6⟩
                   exact h6.elim (fun h6 => by rw [h6] at hg90; exact absurd hg90 (by decide)) (fun h6 => absurd h6 (by simpa using h84)))]
               | rw [if_neg (by
                   rintro ⟨h5, h6⟩
                   first
                   | (rw [h6] at h76; exact absurd h76 (by decide))
                   | (rw [h5] at hg80; exact absurd hg80 (by decide))), if_neg (by rintro ⟨h5, h6⟩; rw [hg87] at h5; cases h5)]
             rw [e9]
             exact ⟨_, _, [], [], rfl, Ob.nil _, Ob.nil _, rfl⟩)
end Go.Proofs.YtkamlondepceiaaGreat

set_option linter.unusedVariables false
set_option linter.unusedSimpArgs false
set_option maxHeartbeats 2000000
namespace Go.Proofs.YtkamlondepceiaaGreat
open Go.SL
section
variable {act er code : Int} {kk : Kp} {n : Nt} {reply : List (BitVec 8)}
theorem keep_no (h42 : (!decide (rightP (stepK n code reply))) = false) : keepBad (act, kk, er) (stepK n code reply) ↔ (act = 3 ∧ code ≠ 2) ∨ (act = 4 ∧ code ≠ 1) := by
  have h : rightP (stepK n code reply) := by simpa using h42
  unfold keepBad
  exact ⟨fun h9 => h9.elim (fun h9 => absurd h h9) id, .inr⟩
theorem keep_z0 (h42 : (!decide (rightP (stepK n code reply))) = true) : (true = true ↔ keepBad (act, kk, er) (stepK n code reply)) := ⟨fun _ => .inl (by simpa using h42), fun _ => rfl⟩
theorem keep_z1 (h42 : (!decide (rightP (stepK n code reply))) = false) (h45 : decide (act = 3) = true) (h50 : decide (code ≠ 2) = true) : (true = true ↔ keepBad (act, kk, er) (stepK n code reply)) := by
  rw [keep_no h42]
  exact ⟨fun _ => .inl ⟨of_decide_eq_true h45, of_decide_eq_true h50⟩, fun _ => rfl⟩
theorem keep_z2 (h42 : (!decide (rightP (stepK n code reply))) = false) (h45 : decide (act = 3) = true) (h50 : decide (code ≠ 2) = false) (h53 : decide (act = 4) = true) : (decide (code ≠ 1) = true ↔ keepBad (act, kk, er) (stepK n code reply)) := by
  have h1 := of_decide_eq_true h45
  have h2 := of_decide_eq_true h53
  omega
theorem keep_z3 (h42 : (!decide (rightP (stepK n code reply))) = false) (h45 : decide (act = 3) = true) (h50 : decide (code ≠ 2) = false) (h53 : decide (act = 4) = false) : (false = true ↔ keepBad (act, kk, er) (stepK n code reply)) := by
  rw [keep_no h42]
  have h1 := of_decide_eq_true h45
  have h2 := of_decide_eq_false h50
  exact ⟨fun h => absurd h (by decide), fun h => by omega⟩
theorem keep_z4 (h42 : (!decide (rightP (stepK n code reply))) = false) (h45 : decide (act = 3) = false) (h53 : decide (act = 4) = true) : (decide (code ≠ 1) = true ↔ keepBad (act, kk, er) (stepK n code reply)) := by
  rw [keep_no h42, decide_eq_true_eq]
  have h1 := of_decide_eq_false h45
  have h2 := of_decide_eq_true h53
  omega
theorem keep_z5 (h42 : (!decide (rightP (stepK n code reply))) = false) (h45 : decide (act = 3) = false) (h53 : decide (act = 4) = false) : (false = true ↔ keepBad (act, kk, er) (stepK n code reply)) := by
  rw [keep_no h42]
  have h1 := of_decide_eq_false h45
  have h2 := of_decide_eq_false h53
  exact ⟨fun h => absurd h (by decide), fun h => by omega⟩
end
theorem keep_tells (e : BitVec 32) (v : Value) (ks : List Kp) (H : List Ck) (hv : KV v ks H) (hl : ks.length ≤ 9223372036854775807) (n : Nt) (vk vd : Value) (hvk : Bs vk n.key H) (hvd : Bs vd n.data H) (code : Int) (vr : Value) (reply : List (BitVec 8)) (hvr : Bs vr reply H) : Tells Tryz.prog 59 [.agg #[.int .u32 e.toNat, v], .agg (ntc n vk vd).toArray, .int .i64 code, vr] H fun r H' => ∃ w D, r = .tuple #[.agg #[.int .u32 (keepK e ks n code reply).1.toNat, w], .int .i64 (keepK e ks n code reply).2.2] ∧ FAt 5 118 w (keepK e ks n code reply).2.1 D ∧ H' = D ++ H := by
 refine Tells.enter Tryz.func59 rfl Tryz.ntmps59 rfl ?_
 intro w0 R
 obtain ⟨ao, c, rfl, hc⟩ := hv.form
 obtain ⟨ko, kcap, rfl, hkc⟩ := hvk.form
 obtain ⟨do_, dc, rfl, hdc⟩ := hvd.form
 obtain ⟨ro, rc, rfl, hrc⟩ := hvr.form
 refine sr_ ?_
 refine WL.h rfl (Hd.boxA rfl fun b4 => ⟨_, rfl, ?_⟩)
 refine WL.h rfl (Hd.boxA rfl fun b5 => ⟨_, rfl, ?_⟩)
 refine WL.h rfl (Hd.alloc (zs := [.int .u32 0, .slice none 0 0]) kr_ fun b8 => ⟨_, rfl, ?_⟩)
 refine a_ rfl rfl ?_
 refine ntsr_ ?_
 refine WL.h rfl (Hd.loadAll (n := 2) kr_ rfl mem_ (by rfl) ⟨_, rfl, ?_⟩)
 refine WL.h rfl (Hd.loadAll (n := 11) kr_ rfl mem_ (by rfl) ⟨_, rfl, ?_⟩)
 refine WL.c rfl (Ent.func Tryz.call55 rfl) (ask_tells e _ ks H hv hl n _ _ hvk hvd) (Sp.p sp_) ?_
 rintro x H1 ⟨wa, wr, A, B, rfl, hA, hB, rfl⟩
 obtain ⟨q, hq⟩ : ∃ q, q = askK e ks n := ⟨_, rfl⟩
 rw [← hq] at hA hB ⊢
 obtain ⟨act, kk, er⟩ := q
 dsimp only at hA hB ⊢
 obtain ⟨oa, ca, rfl, _⟩ := hA.form
 obtain ⟨or_, cr, rfl, _⟩ := hB.form
 refine m_ rfl rfl ?_
 iterate 3 refine x_ rfl rfl rfl ?_
 refine WL.h rfl (Hd.alloc (zs := [.int .u32 0, .int .i64 0, .bool false, .slice none 0 0, .int .i64 0, .slice none 0 0]) kr_ fun b11 => ⟨_, rfl, ?_⟩)
 refine a_ rfl rfl ?_
 refine WL.s (Hd.storeAll (n := 6) kr_ rfl rfl (by rfl) (kc_one rfl rfl) fr_ (by rfl) ⟨rfl, ?_⟩)
 refine a_ rfl rfl ?_
 refine nt_ ?_
 refine WC.seq ?_
 refine sr_ ?_
 refine m_ rfl rfl ?_
 refine WL.y rfl (Yd.neq rfl rfl) ?_
 refine nt_ ?_
 refine WC.ite rfl (fun h24 => ?_) (fun h24 => ?_)
 ·refine sr_ ?_
  refine WL.y rfl (Yd.buildL (pl := [(0, 1), (1, 1)]) (zs := [.int .u32 0, .slice none 0 0]) (parts := []) (vs := []) (cells := [.int .u32 0, .slice none 0 0]) kr_ kr_ rfl rfl) ?_
  refine m_ rfl rfl ?_
  refine WL.s (Hd.storeAll (n := 2) kr_ rfl rfl (by rfl) one_ fr_ (by rfl) ⟨rfl, ?_⟩)
  refine a_ rfl rfl ?_
  refine nt_ ?_
  refine WC.ret ?_
  refine DN.then_ret ?_
  refine DN.retCT (s := 2) (H) Tryz.results59 kr_ rfl rfl mem_ (by rfl) sp_ ?_
  rw [keepK_err (by rw [← hq]; exact h24), ← hq]
  exact ⟨_, [], rfl, FAt.nil _ _, rfl⟩
 ·refine WC.skip ?_
  refine ts_ ?_
  refine WC.region ?_
  have hgo := askK_ok (show (askK e ks n).2.2 = 0 by rw [← hq]; exact Classical.byContradiction h24)
  have hck := good_chk hgo.1
  refine f_ 5 kr_ rfl rfl ?_
  refine d_ kr_ rfl mem_ (by rfl) rfl ?_
  refine f_ 6 kr_ rfl rfl ?_
  refine d_ kr_ rfl mem_ (by rfl) rfl ?_
  refine f_ 7 kr_ rfl rfl ?_
  refine d_ kr_ rfl mem_ (by rfl) rfl ?_
  refine f_ 10 kr_ rfl rfl ?_
  refine d_ kr_ rfl mem_ (by rfl) rfl ?_
  refine m_ rfl rfl ?_
  refine m_ rfl rfl ?_
  refine WL.y rfl (Yd.buildL (pl := [(0, 1), (1, 1), (2, 1), (3, 1), (4, 1), (5, 1)]) (zs := [.int .u32 0, .int .i64 0, .bool false, .slice none 0 0, .int .i64 0, .slice none 0 0]) (parts := [(0, .tmp 28), (1, .tmp 30), (2, .tmp 32), (3, .tmp 34), (4, .tmp 35), (5, .tmp 36)]) (vs := [(0, _), (1, _), (2, _), (3, _), (4, _), (5, _)]) (cells := [_, _, _, _, _, _]) kr_ kr_ rfl rfl) ?_
  refine WL.h rfl (Hd.alloc (zs := [.int .u32 0, .int .i64 0, .bool false, .slice none 0 0, .int .i64 0, .slice none 0 0]) kr_ fun b13 => ⟨_, rfl, ?_⟩)
  refine WL.s (Hd.storeAll (n := 6) kr_ rfl rfl (by rfl) one_ fr_ (by rfl) ⟨rfl, ?_⟩)
  refine nt_ ?_
  refine WC.seq ?_
  refine WC.block ?_
  refine WC.cutK (fun z : Bool => z = true ↔ keepBad (act, kk, er) (stepK n code reply)) (fun z : Bool => [(38, .bool z)]) (fun z : Bool => row b13 (kc (stepK n code reply) (.slice do_ n.data.length dc) (.slice ro reply.length rc)) 118 :: row b11 (kc kk (.slice oa kk.asked.length ca) (.slice or_ kk.reply.length cr)) 118 :: (A ++ (B ++ (row b4 [.int .u32 e.toNat, .slice ao ks.length c] 82 :: row b5 (ntc n (.slice ko n.key.length kcap) (.slice do_ n.data.length dc)) 52 :: row b8 [.int .u32 0, .slice none 0 0] 82 :: H)))) ?_ ?_
  ·refine WC.region ?_
   refine WL.h rfl (Hd.loadAll (n := 6) kr_ rfl mem_ (by rfl) ⟨_, rfl, ?_⟩)
   refine WL.r rfl (Ent.func Tryz.call92 rfl) (right_reads (stepK n code reply) (.slice do_ n.data.length dc) (.slice ro reply.length rc) ⟨_, _, rfl⟩ ⟨_, _, rfl⟩ _) ?_
   refine WL.y rfl (Yd.notB rfl) ?_
   refine m_ rfl rfl ?_
   refine WL.part (t := 42) rfl (fun hg42 => ?_) (fun hg42 => ?_)
   ·iterate 3 refine gn_ 42 rfl rfl rfl rfl ?_
    refine gu_ 45 rfl rfl rfl ?_
    refine gu_ 45 rfl rfl rfl ?_
    refine gn_ 42 rfl rfl rfl rfl ?_
    refine WL.y rfl (Yd.pickT rfl rfl) ?_
    refine m_ rfl rfl ?_
    iterate 3 refine gn_ 50 rfl rfl rfl rfl ?_
    refine gu_ 53 rfl rfl rfl ?_
    refine gu_ 53 rfl rfl rfl ?_
    refine gn_ 50 rfl rfl rfl rfl ?_
    refine WL.y rfl (Yd.pickT rfl rfl) ?_
    refine a_ rfl rfl ?_
    refine WL.nil ?_
    exact DN.reachK (_) (by first | exact keep_z0 hg42 | exact keep_z1 hg42 hg45 hg50 | exact keep_z2 hg42 hg45 hg50 hg53 | exact keep_z3 hg42 hg45 hg50 hg53 | exact keep_z4 hg42 hg45 hg53 | exact keep_z5 hg42 hg45 hg53) (Sx.put rfl (sx_)) (Sp.all sp_)
   ·refine gy_ 42 rfl rfl rfl (Yd.move rfl) ?_
    refine gy_ 42 rfl rfl rfl (Yd.eql rfl rfl) ?_
    refine gy_ 42 rfl rfl rfl (Yd.move rfl) ?_
    refine WL.part (t := 45) rfl (fun hg45 => ?_) (fun hg45 => ?_)
    ·refine gy_ 45 rfl rfl rfl (Yd.move rfl) ?_
     refine gy_ 45 rfl rfl rfl (Yd.neq rfl rfl) ?_
     refine gy_ 42 rfl rfl rfl (Yd.pickT rfl rfl) ?_
     refine WL.y rfl (Yd.pickF rfl rfl) ?_
     refine m_ rfl rfl ?_
     refine WL.part (t := 50) rfl (fun hg50 => ?_) (fun hg50 => ?_)
     ·iterate 3 refine gn_ 50 rfl rfl rfl rfl ?_
      refine gu_ 53 rfl rfl rfl ?_
      refine gu_ 53 rfl rfl rfl ?_
      refine gn_ 50 rfl rfl rfl rfl ?_
      refine WL.y rfl (Yd.pickT rfl rfl) ?_
      refine a_ rfl rfl ?_
      refine WL.nil ?_
      exact DN.reachK (_) (by first | exact keep_z0 hg42 | exact keep_z1 hg42 hg45 hg50 | exact keep_z2 hg42 hg45 hg50 hg53 | exact keep_z3 hg42 hg45 hg50 hg53 | exact keep_z4 hg42 hg45 hg53 | exact keep_z5 hg42 hg45 hg53) (Sx.put rfl (sx_)) (Sp.all sp_)
     ·refine gy_ 50 rfl rfl rfl (Yd.move rfl) ?_
      refine gy_ 50 rfl rfl rfl (Yd.eql rfl rfl) ?_
      refine gy_ 50 rfl rfl rfl (Yd.move rfl) ?_
      refine WL.part (t := 53) rfl (fun hg53 => ?_) (fun hg53 => ?_)
      ·refine gy_ 53 rfl rfl rfl (Yd.move rfl) ?_
       refine gy_ 53 rfl rfl rfl (Yd.neq rfl rfl) ?_
       refine gy_ 50 rfl rfl rfl (Yd.pickT rfl rfl) ?_
       refine WL.y rfl (Yd.pickF rfl rfl) ?_
       refine a_ rfl rfl ?_
       refine WL.nil ?_
       exact DN.reachK (_) (by first | exact keep_z0 hg42 | exact keep_z1 hg42 hg45 hg50 | exact keep_z2 hg42 hg45 hg50 hg53 | exact keep_z3 hg42 hg45 hg50 hg53 | exact keep_z4 hg42 hg45 hg53 | exact keep_z5 hg42 hg45 hg53) (Sx.put rfl (sx_)) (Sp.all sp_)
      ·refine gn_ 53 rfl rfl rfl rfl ?_
       refine gn_ 53 rfl rfl rfl rfl ?_
       refine gy_ 50 rfl rfl rfl (Yd.pickF rfl rfl) ?_
       refine WL.y rfl (Yd.pickF rfl rfl) ?_
       refine a_ rfl rfl ?_
       refine WL.nil ?_
       exact DN.reachK (_) (by first | exact keep_z0 hg42 | exact keep_z1 hg42 hg45 hg50 | exact keep_z2 hg42 hg45 hg50 hg53 | exact keep_z3 hg42 hg45 hg50 hg53 | exact keep_z4 hg42 hg45 hg53 | exact keep_z5 hg42 hg45 hg53) (Sx.put rfl (sx_)) (Sp.all sp_)
    ·refine gn_ 45 rfl rfl rfl rfl ?_
     refine gn_ 45 rfl rfl rfl rfl ?_
     refine gy_ 42 rfl rfl rfl (Yd.pickF rfl rfl) ?_
     refine WL.y rfl (Yd.pickF rfl rfl) ?_
     refine m_ rfl rfl ?_
     refine gy_ 50 rfl rfl rfl (Yd.move rfl) ?_
     refine gy_ 50 rfl rfl rfl (Yd.eql rfl rfl) ?_
     refine gy_ 50 rfl rfl rfl (Yd.move rfl) ?_
     refine WL.part (t := 53) rfl (fun hg53 => ?_) (fun hg53 => ?_)
     ·refine gy_ 53 rfl rfl rfl (Yd.move rfl) ?_
      refine gy_ 53 rfl rfl rfl (Yd.neq rfl rfl) ?_
      refine gy_ 50 rfl rfl rfl (Yd.pickT rfl rfl) ?_
      refine WL.y rfl (Yd.pickF rfl rfl) ?_
      refine a_ rfl rfl ?_
      refine WL.nil ?_
      exact DN.reachK (_) (by first | exact keep_z0 hg42 | exact keep_z1 hg42 hg45 hg50 | exact keep_z2 hg42 hg45 hg50 hg53 | exact keep_z3 hg42 hg45 hg50 hg53 | exact keep_z4 hg42 hg45 hg53 | exact keep_z5 hg42 hg45 hg53) (Sx.put rfl (sx_)) (Sp.all sp_)
     ·refine gn_ 53 rfl rfl rfl rfl ?_
      refine gn_ 53 rfl rfl rfl rfl ?_
      refine gy_ 50 rfl rfl rfl (Yd.pickF rfl rfl) ?_
      refine WL.y rfl (Yd.pickF rfl rfl) ?_
      refine a_ rfl rfl ?_
      refine WL.nil ?_
      exact DN.reachK (_) (by first | exact keep_z0 hg42 | exact keep_z1 hg42 hg45 hg50 | exact keep_z2 hg42 hg45 hg50 hg53 | exact keep_z3 hg42 hg45 hg50 hg53 | exact keep_z4 hg42 hg45 hg53 | exact keep_z5 hg42 hg45 hg53) (Sx.put rfl (sx_)) (Sp.all sp_)
  ·intro z38 hz38
   refine WC.cond rfl (fun h38 => ?_) (fun h38 => ?_)
   ·refine sr_ ?_
    refine WL.y rfl (Yd.buildL (pl := [(0, 1), (1, 1)]) (zs := [.int .u32 0, .slice none 0 0]) (parts := []) (vs := []) (cells := [.int .u32 0, .slice none 0 0]) kr_ kr_ rfl rfl) ?_
    refine WL.s (Hd.storeAll (n := 2) kr_ rfl rfl (by rfl) one_ fr_ (by rfl) ⟨rfl, ?_⟩)
    refine a_ rfl rfl ?_
    refine nt_ ?_
    refine WC.ret ?_
    refine DN.block_ret ?_
    refine DN.then_ret ?_
    refine DN.retCT (s := 2) (H) Tryz.results59 kr_ rfl rfl mem_ (by rfl) sp_ ?_
    rw [keepK_bad (by rw [← hq]; exact h24) (by rw [← hq]; exact hz38.1 h38)]
    exact ⟨_, [], rfl, FAt.nil _ _, rfl⟩
   ·refine sr_ ?_
    refine m_ rfl rfl ?_
    refine WL.y rfl (Yd.eql rfl rfl) ?_
    refine a_ rfl rfl ?_
    refine nt_ ?_
    refine WC.ite rfl (fun h59 => ?_) (fun h59 => ?_)
    ·refine sr_ ?_
     refine WL.y rfl (Yd.buildL (pl := [(0, 1), (1, 1)]) (zs := [.int .u32 0, .slice none 0 0]) (parts := []) (vs := []) (cells := [.int .u32 0, .slice none 0 0]) kr_ kr_ rfl rfl) ?_
     refine WL.s (Hd.storeAll (n := 2) kr_ rfl rfl (by rfl) one_ fr_ (by rfl) ⟨rfl, ?_⟩)
     refine a_ rfl rfl ?_
     refine nt_ ?_
     refine WC.ret ?_
     refine DN.block_ret ?_
     refine DN.then_ret ?_
     refine DN.retCT (s := 2) (H) Tryz.results59 kr_ rfl rfl mem_ (by rfl) sp_ ?_
     rw [keepK_twice (by rw [← hq]; exact h24) (by rw [← hq]; exact fun h => by rw [hz38.2 h] at h38; cases h38) (by rw [← hq]; exact h59)]
     exact ⟨_, [], rfl, FAt.nil _ _, rfl⟩
    ·refine sr_ ?_
     refine f_ 1 kr_ rfl rfl ?_
     refine d_ kr_ rfl mem_ (by rfl) rfl ?_
     refine WL.y rfl (Yd.len (e := 118) kr_ rfl) ?_
     refine WL.y rfl (Yd.geq rfl rfl) ?_
     refine a_ rfl rfl ?_
     refine nt_ ?_
     refine WC.ite rfl (fun h63 => ?_) (fun h63 => ?_)
     ·refine sr_ ?_
      refine WL.y rfl (Yd.buildL (pl := [(0, 1), (1, 1)]) (zs := [.int .u32 0, .slice none 0 0]) (parts := []) (vs := []) (cells := [.int .u32 0, .slice none 0 0]) kr_ kr_ rfl rfl) ?_
      refine WL.s (Hd.storeAll (n := 2) kr_ rfl rfl (by rfl) one_ fr_ (by rfl) ⟨rfl, ?_⟩)
      refine a_ rfl rfl ?_
      refine nt_ ?_
      refine WC.ret ?_
      refine DN.block_ret ?_
      refine DN.then_ret ?_
      refine DN.retCT (s := 2) (H) Tryz.results59 kr_ rfl rfl mem_ (by rfl) sp_ ?_
      rw [keepK_full (by rw [← hq]; exact h24) (by rw [← hq]; exact fun h => by rw [hz38.2 h] at h38; cases h38) (by rw [← hq]; exact h59) (by omega)]
      exact ⟨_, [], rfl, FAt.nil _ _, rfl⟩
     ·refine WC.skip ?_
      refine DN.block_normal ?_
      refine ts_ ?_
      refine WC.draw 9 kr_ rfl ?_
      refine WA.quiet 9 0 rfl rfl kr_ kr_ kr_ rfl ?_
      have hrt : rightP (stepK n code reply) := Classical.byContradiction fun h => by rw [hz38.2 (.inl h)] at h38; cases h38
      have h200 := hck.1
      refine WQ.rd rfl Wt.none (Rd.loadAll (n := 2) kr_ rfl mem_ (by rfl)) ?_
      refine WQ.rd rfl Wt.none (Rd.loadAll (n := 6) kr_ rfl mem_ (by rfl)) ?_
      refine WQ.rf rfl Wt.none (Ent.func Tryz.call94 rfl) (of_reads (stepK n code reply) (.slice do_ n.data.length dc) (.slice ro reply.length rc) rfl rfl _) Sp.sn ?_
      refine WQ.rf rfl Wt.none (Ent.func Tryz.call93 rfl) (find_reads e _ ks _ (hv.mono gr_) hck n.order n.step n.undo hrt.2.1 hrt.2.2.1) Sp.sn ?_
      refine WQ.y rfl (Yd.move rfl) ?_
      refine WQ.y rfl (Yd.extract rfl rfl) ?_
      refine WQ.y rfl (Yd.extract rfl rfl) ?_
      refine WQ.y rfl (Yd.assign rfl) ?_
      refine WQ.y rfl (Yd.assign rfl) ?_
      refine WQ.nil ?_
      refine WA.done kr_ ?_
      refine ts_ ?_
      refine WC.region ?_
      refine WL.h rfl (Hd.loadAll (n := 2) kr_ rfl mem_ (by rfl) ⟨_, rfl, ?_⟩)
      refine WL.c rfl (Ent.func Tryz.call85 rfl) (all_tells e _ ks H hv hck) (Sp.p sp_) ?_
      rintro r2 H1 ⟨w, D, rfl, hF, rfl⟩
      obtain ⟨cs2, C2, D2, hO2, hK2, rfl⟩ := hF
      obtain ⟨wo, wc, rfl, hwc⟩ := hO2.form
      refine WL.s (Hd.storeAll (n := 2) kr_ rfl rfl (by rfl) one_ fr_ (by rfl) ⟨rfl, ?_⟩)
      refine ntsr_ ?_
      refine f_ 1 kr_ rfl rfl ?_
      refine d_ kr_ rfl mem_ (by rfl) rfl ?_
      refine f_ 0 kr_ rfl rfl ?_
      refine WL.s (Hd.store1s kr_ rfl rfl (by rfl) fr_ (by rfl) (by first | (simp only [List.set_cons_zero, List.set_cons_succ, Nat.zero_add, Nat.add_zero, Nat.reduceAdd]; rfl) | rfl) ⟨rfl, ?_⟩)
      refine nt_ ?_
      refine WC.seq ?_
      refine WC.draw 9 kr_ rfl ?_
      refine WA.y (i := 0) (NoPanic.then (NoPanic.body)) rfl kr_ kr_ kr_ rfl (Yd.fieldAddr (k := 1) kr_ rfl) ?_
      refine WA.y (i := 2) (NoPanic.then (NoPanic.body)) rfl kr_ kr_ kr_ rfl (Yd.move rfl) ?_
      refine WA.two (i := 1) (j := 3) kr_ ?_ ?_
      ·refine WO.h rfl Wt.none rfl (Hd.load1 kr_ rfl mem_ (by rfl) ⟨_, rfl, ?_⟩)
       refine WA.one (i := 3) kr_ ?_
       refine WO.h rfl Wt.none rfl (Hd.loadAll (n := 6) kr_ rfl mem_ (by rfl) ⟨_, rfl, ?_⟩)
       refine WA.one (i := 4) kr_ ?_
       refine WO.c rfl Wt.none rfl (Ent.func Tryz.call96 rfl) (own_tells (stepK n code reply) (.slice do_ n.data.length dc) (.slice ro reply.length rc) H hvd hvr (by have := hrt.2.2.2.1; omega) (by have := hrt.2.2.2.2.1; omega)) (Sp.p sp_) ?_
       rintro x5 H5 ⟨wa5, wr5, A5, B5, rfl, hA5, hB5, rfl⟩
       obtain ⟨o5, c5, rfl, hc5⟩ := hA5.form
       obtain ⟨o6, c6, rfl, hc6⟩ := hB5.form
       refine WA.one (i := 5) kr_ ?_
       refine WO.h rfl Wt.none rfl (Hd.buildA (e := 118) (sz := 6) (zs := [.int .u32 0, .int .i64 0, .bool false, .slice none 0 0, .int .i64 0, .slice none 0 0]) kr_ kr_ kr_ rfl rfl (by rfl) kr_ fun b86 => ⟨_, rfl, ?_⟩)
       refine WA.one (i := 6) kr_ ?_
       refine WO.c rfl Wt.none rfl (Ent.func Tryz.call95 rfl) (insert_tells _ ks.length cs2 C2 hO2 hK2.one (by omega) (pos ks (stepK n code reply).num) (pos_le _ _) b86 (kc (stepK n code reply) (.slice o5 _ c5) (.slice o6 _ c6)) rfl (kc_one rfl rfl)) (Sp.p sp_) ?_
       intro r7 H7 hO7
       obtain ⟨D7, hK7, hp7⟩ := hK2.ins (pos_le ks (stepK n code reply).num) hA5 hB5
       obtain ⟨io, ic7, rfl, hic7⟩ := hO7.form
       refine WA.y (i := 7) (NoPanic.then (NoPanic.body)) rfl kr_ kr_ kr_ rfl (Yd.fieldAddr (k := 1) kr_ rfl) ?_
       refine WA.one (i := 8) kr_ ?_
       refine WO.s rfl Wt.none (Hd.store1s kr_ rfl rfl (by rfl) fr_ (by rfl) (by first | (simp only [List.set_cons_zero, List.set_cons_succ, Nat.zero_add, Nat.add_zero, Nat.reduceAdd]; rfl) | rfl) ⟨rfl, ?_⟩)
       refine WA.done kr_ ?_
       refine ts_ ?_
       refine WC.region ?_
       refine WL.h rfl (Hd.loadAll (n := 2) kr_ rfl mem_ (by rfl) ⟨_, rfl, ?_⟩)
       refine WL.s (Hd.storeAll (n := 2) kr_ rfl rfl (by rfl) one_ fr_ (by rfl) ⟨rfl, ?_⟩)
       refine a_ rfl rfl ?_
       refine nt_ ?_
       refine WC.ret ?_
       refine DN.fit (C := row b8 [.int .u32 n.epoch.toNat, .slice io (ks.length + 1) ic7] 82 :: (H7 ++ ((D2 ++ (A5 ++ B5)) ++ H))) sp_ ?_
       refine DN.blocks (row b8 [.int .u32 n.epoch.toNat, .slice io (ks.length + 1) ic7] 82 :: (H7 ++ (D7 ++ H))) (List.Perm.cons _ (List.Perm.append_left _ (hp7.symm.append_right _))) ?_
       refine DN.retCT (s := 2) (H7 ++ (D7 ++ H)) Tryz.results59 kr_ rfl rfl mem_ (by rfl) sp_ ?_
       rw [keepK_ok (by rw [← hq]; exact h24) (by rw [← hq]; exact fun h => by rw [hz38.2 h] at h38; cases h38) (by rw [← hq]; exact h59) (by omega)]
       exact ⟨_, H7 ++ D7, rfl, ⟨_, H7, D7, by rw [insAt_len _ (pos_le _ _)]; exact hO7, hK7, rfl⟩, by rw [List.append_assoc]⟩
      ·refine WO.h rfl Wt.none rfl (Hd.loadAll (n := 6) kr_ rfl mem_ (by rfl) ⟨_, rfl, ?_⟩)
       refine WA.two (i := 1) (j := 4) kr_ ?_ ?_
       ·refine WO.h rfl Wt.none rfl (Hd.load1 kr_ rfl mem_ (by rfl) ⟨_, rfl, ?_⟩)
        refine WA.one (i := 4) kr_ ?_
        refine WO.c rfl Wt.none rfl (Ent.func Tryz.call96 rfl) (own_tells (stepK n code reply) (.slice do_ n.data.length dc) (.slice ro reply.length rc) H hvd hvr (by have := hrt.2.2.2.1; omega) (by have := hrt.2.2.2.2.1; omega)) (Sp.p sp_) ?_
        rintro x5 H5 ⟨wa5, wr5, A5, B5, rfl, hA5, hB5, rfl⟩
        obtain ⟨o5, c5, rfl, hc5⟩ := hA5.form
        obtain ⟨o6, c6, rfl, hc6⟩ := hB5.form
        refine WA.one (i := 5) kr_ ?_
        refine WO.h rfl Wt.none rfl (Hd.buildA (e := 118) (sz := 6) (zs := [.int .u32 0, .int .i64 0, .bool false, .slice none 0 0, .int .i64 0, .slice none 0 0]) kr_ kr_ kr_ rfl rfl (by rfl) kr_ fun b86 => ⟨_, rfl, ?_⟩)
        refine WA.one (i := 6) kr_ ?_
        refine WO.c rfl Wt.none rfl (Ent.func Tryz.call95 rfl) (insert_tells _ ks.length cs2 C2 hO2 hK2.one (by omega) (pos ks (stepK n code reply).num) (pos_le _ _) b86 (kc (stepK n code reply) (.slice o5 _ c5) (.slice o6 _ c6)) rfl (kc_one rfl rfl)) (Sp.p sp_) ?_
        intro r7 H7 hO7
        obtain ⟨D7, hK7, hp7⟩ := hK2.ins (pos_le ks (stepK n code reply).num) hA5 hB5
        obtain ⟨io, ic7, rfl, hic7⟩ := hO7.form
        refine WA.y (i := 7) (NoPanic.then (NoPanic.body)) rfl kr_ kr_ kr_ rfl (Yd.fieldAddr (k := 1) kr_ rfl) ?_
        refine WA.one (i := 8) kr_ ?_
        refine WO.s rfl Wt.none (Hd.store1s kr_ rfl rfl (by rfl) fr_ (by rfl) (by first | (simp only [List.set_cons_zero, List.set_cons_succ, Nat.zero_add, Nat.add_zero, Nat.reduceAdd]; rfl) | rfl) ⟨rfl, ?_⟩)
        refine WA.done kr_ ?_
        refine ts_ ?_
        refine WC.region ?_
        refine WL.h rfl (Hd.loadAll (n := 2) kr_ rfl mem_ (by rfl) ⟨_, rfl, ?_⟩)
        refine WL.s (Hd.storeAll (n := 2) kr_ rfl rfl (by rfl) one_ fr_ (by rfl) ⟨rfl, ?_⟩)
        refine a_ rfl rfl ?_
        refine nt_ ?_
        refine WC.ret ?_
        refine DN.fit (C := row b8 [.int .u32 n.epoch.toNat, .slice io (ks.length + 1) ic7] 82 :: (H7 ++ ((D2 ++ (A5 ++ B5)) ++ H))) sp_ ?_
        refine DN.blocks (row b8 [.int .u32 n.epoch.toNat, .slice io (ks.length + 1) ic7] 82 :: (H7 ++ (D7 ++ H))) (List.Perm.cons _ (List.Perm.append_left _ (hp7.symm.append_right _))) ?_
        refine DN.retCT (s := 2) (H7 ++ (D7 ++ H)) Tryz.results59 kr_ rfl rfl mem_ (by rfl) sp_ ?_
        rw [keepK_ok (by rw [← hq]; exact h24) (by rw [← hq]; exact fun h => by rw [hz38.2 h] at h38; cases h38) (by rw [← hq]; exact h59) (by omega)]
        exact ⟨_, H7 ++ D7, rfl, ⟨_, H7, D7, by rw [insAt_len _ (pos_le _ _)]; exact hO7, hK7, rfl⟩, by rw [List.append_assoc]⟩
       ·refine WO.c rfl Wt.none rfl (Ent.func Tryz.call96 rfl) (own_tells (stepK n code reply) (.slice do_ n.data.length dc) (.slice ro reply.length rc) H hvd hvr (by have := hrt.2.2.2.1; omega) (by have := hrt.2.2.2.2.1; omega)) (Sp.p sp_) ?_
        rintro x5 H5 ⟨wa5, wr5, A5, B5, rfl, hA5, hB5, rfl⟩
        obtain ⟨o5, c5, rfl, hc5⟩ := hA5.form
        obtain ⟨o6, c6, rfl, hc6⟩ := hB5.form
        refine WA.two (i := 1) (j := 5) kr_ ?_ ?_
        ·refine WO.h rfl Wt.none rfl (Hd.load1 kr_ rfl mem_ (by rfl) ⟨_, rfl, ?_⟩)
         refine WA.one (i := 5) kr_ ?_
         refine WO.h rfl Wt.none rfl (Hd.buildA (e := 118) (sz := 6) (zs := [.int .u32 0, .int .i64 0, .bool false, .slice none 0 0, .int .i64 0, .slice none 0 0]) kr_ kr_ kr_ rfl rfl (by rfl) kr_ fun b86 => ⟨_, rfl, ?_⟩)
         refine WA.one (i := 6) kr_ ?_
         refine WO.c rfl Wt.none rfl (Ent.func Tryz.call95 rfl) (insert_tells _ ks.length cs2 C2 hO2 hK2.one (by omega) (pos ks (stepK n code reply).num) (pos_le _ _) b86 (kc (stepK n code reply) (.slice o5 _ c5) (.slice o6 _ c6)) rfl (kc_one rfl rfl)) (Sp.p sp_) ?_
         intro r7 H7 hO7
         obtain ⟨D7, hK7, hp7⟩ := hK2.ins (pos_le ks (stepK n code reply).num) hA5 hB5
         obtain ⟨io, ic7, rfl, hic7⟩ := hO7.form
         refine WA.y (i := 7) (NoPanic.then (NoPanic.body)) rfl kr_ kr_ kr_ rfl (Yd.fieldAddr (k := 1) kr_ rfl) ?_
         refine WA.one (i := 8) kr_ ?_
         refine WO.s rfl Wt.none (Hd.store1s kr_ rfl rfl (by rfl) fr_ (by rfl) (by first | (simp only [List.set_cons_zero, List.set_cons_succ, Nat.zero_add, Nat.add_zero, Nat.reduceAdd]; rfl) | rfl) ⟨rfl, ?_⟩)
         refine WA.done kr_ ?_
         refine ts_ ?_
         refine WC.region ?_
         refine WL.h rfl (Hd.loadAll (n := 2) kr_ rfl mem_ (by rfl) ⟨_, rfl, ?_⟩)
         refine WL.s (Hd.storeAll (n := 2) kr_ rfl rfl (by rfl) one_ fr_ (by rfl) ⟨rfl, ?_⟩)
         refine a_ rfl rfl ?_
         refine nt_ ?_
         refine WC.ret ?_
         refine DN.fit (C := row b8 [.int .u32 n.epoch.toNat, .slice io (ks.length + 1) ic7] 82 :: (H7 ++ ((D2 ++ (A5 ++ B5)) ++ H))) sp_ ?_
         refine DN.blocks (row b8 [.int .u32 n.epoch.toNat, .slice io (ks.length + 1) ic7] 82 :: (H7 ++ (D7 ++ H))) (List.Perm.cons _ (List.Perm.append_left _ (hp7.symm.append_right _))) ?_
         refine DN.retCT (s := 2) (H7 ++ (D7 ++ H)) Tryz.results59 kr_ rfl rfl mem_ (by rfl) sp_ ?_
         rw [keepK_ok (by rw [← hq]; exact h24) (by rw [← hq]; exact fun h => by rw [hz38.2 h] at h38; cases h38) (by rw [← hq]; exact h59) (by omega)]
         exact ⟨_, H7 ++ D7, rfl, ⟨_, H7, D7, by rw [insAt_len _ (pos_le _ _)]; exact hO7, hK7, rfl⟩, by rw [List.append_assoc]⟩
        ·refine WO.h rfl Wt.none rfl (Hd.buildA (e := 118) (sz := 6) (zs := [.int .u32 0, .int .i64 0, .bool false, .slice none 0 0, .int .i64 0, .slice none 0 0]) kr_ kr_ kr_ rfl rfl (by rfl) kr_ fun b86 => ⟨_, rfl, ?_⟩)
         refine WA.one (i := 1) kr_ ?_
         refine WO.h rfl Wt.none rfl (Hd.load1 kr_ rfl mem_ (by rfl) ⟨_, rfl, ?_⟩)
         refine WA.one (i := 6) kr_ ?_
         refine WO.c rfl Wt.none rfl (Ent.func Tryz.call95 rfl) (insert_tells _ ks.length cs2 C2 hO2 hK2.one (by omega) (pos ks (stepK n code reply).num) (pos_le _ _) b86 (kc (stepK n code reply) (.slice o5 _ c5) (.slice o6 _ c6)) rfl (kc_one rfl rfl)) (Sp.p sp_) ?_
         intro r7 H7 hO7
         obtain ⟨D7, hK7, hp7⟩ := hK2.ins (pos_le ks (stepK n code reply).num) hA5 hB5
         obtain ⟨io, ic7, rfl, hic7⟩ := hO7.form
         refine WA.y (i := 7) (NoPanic.then (NoPanic.body)) rfl kr_ kr_ kr_ rfl (Yd.fieldAddr (k := 1) kr_ rfl) ?_
         refine WA.one (i := 8) kr_ ?_
         refine WO.s rfl Wt.none (Hd.store1s kr_ rfl rfl (by rfl) fr_ (by rfl) (by first | (simp only [List.set_cons_zero, List.set_cons_succ, Nat.zero_add, Nat.add_zero, Nat.reduceAdd]; rfl) | rfl) ⟨rfl, ?_⟩)
         refine WA.done kr_ ?_
         refine ts_ ?_
         refine WC.region ?_
         refine WL.h rfl (Hd.loadAll (n := 2) kr_ rfl mem_ (by rfl) ⟨_, rfl, ?_⟩)
         refine WL.s (Hd.storeAll (n := 2) kr_ rfl rfl (by rfl) one_ fr_ (by rfl) ⟨rfl, ?_⟩)
         refine a_ rfl rfl ?_
         refine nt_ ?_
         refine WC.ret ?_
         refine DN.fit (C := row b8 [.int .u32 n.epoch.toNat, .slice io (ks.length + 1) ic7] 82 :: (H7 ++ ((D2 ++ (A5 ++ B5)) ++ H))) sp_ ?_
         refine DN.blocks (row b8 [.int .u32 n.epoch.toNat, .slice io (ks.length + 1) ic7] 82 :: (H7 ++ (D7 ++ H))) (List.Perm.cons _ (List.Perm.append_left _ (hp7.symm.append_right _))) ?_
         refine DN.retCT (s := 2) (H7 ++ (D7 ++ H)) Tryz.results59 kr_ rfl rfl mem_ (by rfl) sp_ ?_
         rw [keepK_ok (by rw [← hq]; exact h24) (by rw [← hq]; exact fun h => by rw [hz38.2 h] at h38; cases h38) (by rw [← hq]; exact h59) (by omega)]
         exact ⟨_, H7 ++ D7, rfl, ⟨_, H7, D7, by rw [insAt_len _ (pos_le _ _)]; exact hO7, hK7, rfl⟩, by rw [List.append_assoc]⟩
end Go.Proofs.YtkamlondepceiaaGreat

set_option linter.unusedVariables false
set_option linter.unusedSimpArgs false
set_option maxHeartbeats 4000000
namespace Go.Proofs.YtkamlondepceiaaGreat
open Go.SL
theorem serve_tells (p : Nat) (s : Cw) (C : List Ck) (h : CwAt 189 198 203 3 5 118 111 22 116 p s C) {g0 : List Gd} {u0 : List Au} {r0 : List Int} (inv : CInv g0 u0 r0 s) (n : Nt) (vk vd : Value) (H : List Ck) (hvk : Bs vk n.key H) (hvd : Bs vd n.data H) : Tells Tryz.prog 22 [.pointer (some ⟨p, 0, none⟩), .agg (ntc n vk vd).toArray] (C ++ H) fun r H' => ∃ C' w A, r = .agg (ntc (serveN s n) (.slice none 0 0) w).toArray ∧ CwAt 189 198 203 3 5 118 111 22 116 p (serveS s n) C' ∧ Ob 5 w (serveN s n).data A ∧ H' = C' ++ (A ++ H) := by
 refine Tells.enter Tryz.func22 rfl Tryz.ntmps22 rfl ?_
 intro w0 R
 have hAt := h
 have hck := inv.ck
 have h200 := hck.1
 have hefl := inv.ef
 have hnol := inv.no
 obtain ⟨pd, ps, pp, vL, vE, vN, CS, CP, CD, CF, CE, cn, CN, DO, rfl, hS, hP, hD, hF, hE, hN, hO⟩ := h
 obtain ⟨lo, lc, rfl⟩ := hF.form
 obtain ⟨eo, ec, rfl, hec⟩ := hE.form
 obtain ⟨no, nc, rfl, hnc⟩ := hN.form
 obtain ⟨ko, kc9, rfl, hkc⟩ := hvk.form
 obtain ⟨do_, dc, rfl, hdc⟩ := hvd.form
 obtain ⟨q, hq⟩ : ∃ q, q = askK s.e s.ks n := ⟨_, rfl⟩
 have hkr : q.2.1.reply.length ≤ 255 := by rw [hq]; exact ask_reply hck
 obtain ⟨act, kk, er⟩ := q
 have hkr : kk.reply.length ≤ 255 := hkr
 have hq1 : (askK s.e s.ks n).1 = act := by rw [← hq]
 have hq2 : (askK s.e s.ks n).2.1 = kk := by rw [← hq]
 have hq3 : (askK s.e s.ks n).2.2 = er := by rw [← hq]
 refine sr_ ?_
 refine WL.h rfl (Hd.boxA rfl fun b3 => ⟨_, rfl, ?_⟩)
 refine WL.h rfl (Hd.alloc (zs := [.int .i64 0, .int .u32 0, .int .u32 0, .int .u64 0, .int .u64 0, .int .u32 0, .int .i64 0, .bool false, .int .i64 0, .slice none 0 0, .slice none 0 0]) kr_ fun b4 => ⟨_, rfl, ?_⟩)
 refine nt_ ?_
 refine WC.seq ?_
 refine sr_ ?_
 refine m_ rfl rfl ?_
 refine WL.y rfl (Yd.eqlNil Tryz.underlying40 rfl rfl) ?_
 refine WL.renamed (t := 11) (v := .bool false) rfl (congrArg Value.bool (rfl)) ?_
 refine nt_ ?_
 refine WC.no rfl ?_
 refine WC.skip ?_
 refine DN.then_normal ?_
 refine WC.cutK (fun z : Nat × (Option Addr × Nat) × (Option Addr × Nat) × List Ck × List Ck => Ob 5 (.slice z.2.1.1 kk.asked.length z.2.1.2) kk.asked z.2.2.2.1 ∧ Ob 5 (.slice z.2.2.1.1 kk.reply.length z.2.2.1.2) kk.reply z.2.2.2.2) (fun z : Nat × (Option Addr × Nat) × (Option Addr × Nat) × List Ck × List Ck => [(5, .int .i64 act), (6, .pointer (some ⟨z.1, 0, none⟩)), (7, .int .i64 er)]) (fun z : Nat × (Option Addr × Nat) × (Option Addr × Nat) × List Ck × List Ck => row z.1 (kc kk (.slice z.2.1.1 kk.asked.length z.2.1.2) (.slice z.2.2.1.1 kk.reply.length z.2.2.1.2)) 118 :: (z.2.2.2.1 ++ (z.2.2.2.2 ++ ((row p [.pointer (some ⟨pd, 0, none⟩), .pointer (some ⟨ps, 0, none⟩), .pointer (some ⟨pp, 0, none⟩), .int .u32 s.e.toNat, .slice lo s.ks.length lc, .slice eo s.ef.length ec, .slice no s.no.length nc] 116 :: (CS ++ (CP ++ (CD ++ (CF ++ (CE ++ (CN ++ DO))))))) ++ (row b4 [.int .i64 0, .int .u32 0, .int .u32 0, .int .u64 0, .int .u64 0, .int .u32 0, .int .i64 0, .bool false, .int .i64 0, .slice none 0 0, .slice none 0 0] 52 :: (row b3 (ntc n (.slice ko n.key.length kc9) (.slice do_ n.data.length dc)) 52 :: H)))))) ?_ ?_
 ·refine WC.draw 14 kr_ rfl ?_
  refine WA.float (N := 14) rfl ?_
  refine WAF.add (i := 0) (d := 14) rfl (QF.mk [] [] rfl rfl kr_ rfl (QAt.y Wt.none (Yd.move rfl))) ?_
  refine WAF.add (i := 1) (d := 15) rfl (QF.mk [0] [(14, _)] rfl rfl kr_ rfl (QAt.y Wt.none (Yd.notNil rfl))) ?_
  refine WAF.add (i := 2) (d := 16) rfl (QF.mk [1] [(15, _)] rfl rfl kr_ rfl (QAt.y Wt.none (Yd.fieldAddr (k := 3) kr_ rfl))) ?_
  refine WAF.add (i := 3) (d := 17) rfl (QF.mk [2] [(16, _)] rfl rfl kr_ rfl (QAt.rd Wt.none (Rd.loadA (n := 2) (vs := [_, _]) kr_ rfl mem_ (by rfl) (by rfl)))) ?_
  refine WAF.add (i := 4) (d := 18) rfl (QF.mk [] [] rfl rfl kr_ rfl (QAt.rd Wt.none (Rd.loadAll (n := 11) kr_ rfl mem_ (by rfl)))) ?_
  refine WAF.step (pd := [(4, 18), (3, 17), (2, 16), (1, 15), (0, 14)]) [(5, [4, 3]), (10, [])] rfl kr_ kr_ (all_c rfl (all_c rfl (all_c rfl (all_c rfl (all_c rfl (all_n)))))) (all_c (QF.mk [] [] rfl rfl kr_ rfl (QAt.rd Wt.none (Rd.loadAll (n := 11) kr_ rfl mem_ (by rfl)))) (all_c (QF.mk [2] [(16, _)] rfl rfl kr_ rfl (QAt.rd Wt.none (Rd.loadA (n := 2) (vs := [_, _]) kr_ rfl mem_ (by rfl) (by rfl)))) (all_c (QF.mk [1] [(15, _)] rfl rfl kr_ rfl (QAt.y Wt.none (Yd.fieldAddr (k := 3) kr_ rfl))) (all_c (QF.mk [0] [(14, _)] rfl rfl kr_ rfl (QAt.y Wt.none (Yd.notNil rfl))) (all_c (QF.mk [] [] rfl rfl kr_ rfl (QAt.y Wt.none (Yd.move rfl))) (all_n)))))) (all_c ?_ (all_c ?_ (all_n)))
  ·change SO _ _ _ _ _ _ 5 ([(18, _), (17, _)] ++ _) _ _
   refine SO.c rfl Wt.none rfl (Ent.func Tryz.call55 rfl) (ask_tells s.e _ s.ks (CF ++ H) (hF.kv.mono gr_) (by omega) n _ _ (hvk.mono gr_) (hvd.mono gr_)) (Sp.p sp_) ?_
   rintro x H9 ⟨wa, wr, A, B, rfl, hA, hB, rfl⟩
   rw [← hq] at hA hB ⊢
   dsimp only at hA hB ⊢
   obtain ⟨oa, ca, rfl, _⟩ := hA.form
   obtain ⟨or_, cr, rfl, _⟩ := hB.form
   change WAF _ _ _ _ _ _ [(2, 16, _), (1, 15, _), (0, 14, _)] _ [5, 4, 3] ((19, _) :: ([(18, _), (17, _)] ++ _)) _
   refine WAF.add (i := 6) (d := 13) rfl (QF.mk [] [] rfl rfl kr_ rfl (QAt.y Wt.none (Yd.move rfl))) ?_
   refine WAF.add (i := 7) (d := 20) rfl (QF.mk [6] [(13, _)] rfl rfl kr_ rfl (QAt.y Wt.none (Yd.extract rfl rfl))) ?_
   refine WAF.add (i := 8) (d := 21) rfl (QF.mk [6] [(13, _)] rfl rfl kr_ rfl (QAt.y Wt.none (Yd.extract rfl rfl))) ?_
   refine WAF.add (i := 9) (d := 22) rfl (QF.mk [6] [(13, _)] rfl rfl kr_ rfl (QAt.y Wt.none (Yd.extract rfl rfl))) ?_
   refine WAF.step (pd := [(9, 22), (8, 21), (7, 20), (6, 13), (2, 16), (1, 15), (0, 14)]) [(10, [])] rfl kr_ kr_ (all_c rfl (all_c rfl (all_c rfl (all_c rfl (all_c rfl (all_c rfl (all_c rfl (all_n)))))))) (all_c (QF.mk [6] [(13, _)] rfl rfl kr_ rfl (QAt.y Wt.none (Yd.extract rfl rfl))) (all_c (QF.mk [6] [(13, _)] rfl rfl kr_ rfl (QAt.y Wt.none (Yd.extract rfl rfl))) (all_c (QF.mk [6] [(13, _)] rfl rfl kr_ rfl (QAt.y Wt.none (Yd.extract rfl rfl))) (all_c (QF.mk [] [] rfl rfl kr_ rfl (QAt.y Wt.none (Yd.move rfl))) (all_c (QF.mk [1] [(15, _)] rfl rfl kr_ rfl (QAt.y Wt.none (Yd.fieldAddr (k := 3) kr_ rfl))) (all_c (QF.mk [0] [(14, _)] rfl rfl kr_ rfl (QAt.y Wt.none (Yd.notNil rfl))) (all_c (QF.mk [] [] rfl rfl kr_ rfl (QAt.y Wt.none (Yd.move rfl))) (all_n)))))))) (all_c ?_ (all_n))
   ·change SO _ _ _ _ _ _ 10 ([] ++ _) _ _
    refine SO.h rfl Wt.none rfl (Hd.alloc (zs := [.int .u32 0, .int .i64 0, .bool false, .slice none 0 0, .int .i64 0, .slice none 0 0]) kr_ fun b6 => ⟨_, rfl, ?_⟩)
    change WAF _ _ _ _ _ _ [(9, 22, _), (8, 21, _), (7, 20, _), (6, 13, _), (2, 16, _), (1, 15, _), (0, 14, _)] _ [10, 5, 4, 3] ((6, _) :: ([] ++ _)) _
    refine WAF.add (i := 11) (d := 5) rfl (QF.mk [7, 6, 2, 1, 0] [(20, _), (13, _), (16, _), (15, _), (14, _)] rfl rfl kr_ rfl (QAt.y Wt.none (Yd.assign rfl))) ?_
    refine WAF.step (pd := [(11, 5), (9, 22), (8, 21), (7, 20), (6, 13), (2, 16), (1, 15), (0, 14)]) [(12, [11, 8, 7, 6, 2, 1, 0])] rfl kr_ kr_ (all_c rfl (all_c rfl (all_c rfl (all_c rfl (all_c rfl (all_c rfl (all_c rfl (all_c rfl (all_n))))))))) (all_c (QF.mk [7, 6, 2, 1, 0] [(20, _), (13, _), (16, _), (15, _), (14, _)] rfl rfl kr_ rfl (QAt.y Wt.none (Yd.assign rfl))) (all_c (QF.mk [6] [(13, _)] rfl rfl kr_ rfl (QAt.y Wt.none (Yd.extract rfl rfl))) (all_c (QF.mk [6] [(13, _)] rfl rfl kr_ rfl (QAt.y Wt.none (Yd.extract rfl rfl))) (all_c (QF.mk [6] [(13, _)] rfl rfl kr_ rfl (QAt.y Wt.none (Yd.extract rfl rfl))) (all_c (QF.mk [] [] rfl rfl kr_ rfl (QAt.y Wt.none (Yd.move rfl))) (all_c (QF.mk [1] [(15, _)] rfl rfl kr_ rfl (QAt.y Wt.none (Yd.fieldAddr (k := 3) kr_ rfl))) (all_c (QF.mk [0] [(14, _)] rfl rfl kr_ rfl (QAt.y Wt.none (Yd.notNil rfl))) (all_c (QF.mk [] [] rfl rfl kr_ rfl (QAt.y Wt.none (Yd.move rfl))) (all_n))))))))) (all_c ?_ (all_n))
    ·change SO _ _ _ _ _ _ 12 ([(5, _), (21, _), (20, _), (13, _), (16, _), (15, _), (14, _)] ++ _) _ _
     refine SO.s rfl Wt.none (Hd.storeAll (n := 6) kr_ rfl rfl (by rfl) (kc_one rfl rfl) fr_ (by rfl) ⟨rfl, ?_⟩)
     change WAF _ _ _ _ _ _ [(9, 22, _)] _ [12, 11, 8, 7, 6, 2, 1, 0, 10, 5, 4, 3] (([(5, _), (21, _), (20, _), (13, _), (16, _), (15, _), (14, _)] ++ _)) _
     refine WAF.add (i := 13) (d := 7) rfl (QF.mk [9] [(22, _)] rfl rfl kr_ rfl (QAt.y Wt.none (Yd.assign rfl))) ?_
     refine WAF.done (pd := [(13, 7), (9, 22)]) rfl kr_ kr_ (all_c rfl (all_c rfl (all_n))) (all_c (QF.mk [9] [(22, _)] rfl rfl kr_ rfl (QAt.y Wt.none (Yd.assign rfl))) (all_c (QF.mk [] [] rfl rfl kr_ rfl (QAt.y Wt.none (Yd.extract rfl rfl))) (all_n))) ?_
     change DN _ _ _ _ _ _ ([(7, _), (22, _)] ++ _) _
     exact DN.reachK ((b6, (oa, ca), (or_, cr), A, B)) (⟨hA, hB⟩) (Sx.put rfl (Sx.put rfl (Sx.put rfl (sx_)))) (Sp.all sp_)
  ·change SO _ _ _ _ _ _ 10 ([] ++ _) _ _
   refine SO.h rfl Wt.none rfl (Hd.alloc (zs := [.int .u32 0, .int .i64 0, .bool false, .slice none 0 0, .int .i64 0, .slice none 0 0]) kr_ fun b6 => ⟨_, rfl, ?_⟩)
   change WAF _ _ _ _ _ _ [(4, 18, _), (3, 17, _), (2, 16, _), (1, 15, _), (0, 14, _)] _ [10] ((6, _) :: ([] ++ _)) _
   refine WAF.step (pd := [(4, 18), (3, 17), (2, 16), (1, 15), (0, 14)]) [(5, [4, 3])] rfl kr_ kr_ (all_c rfl (all_c rfl (all_c rfl (all_c rfl (all_c rfl (all_n)))))) (all_c (QF.mk [] [] rfl rfl kr_ rfl (QAt.rd Wt.none (Rd.loadAll (n := 11) kr_ rfl mem_ (by rfl)))) (all_c (QF.mk [2] [(16, _)] rfl rfl kr_ rfl (QAt.rd Wt.none (Rd.loadA (n := 2) (vs := [_, _]) kr_ rfl mem_ (by rfl) (by rfl)))) (all_c (QF.mk [1] [(15, _)] rfl rfl kr_ rfl (QAt.y Wt.none (Yd.fieldAddr (k := 3) kr_ rfl))) (all_c (QF.mk [0] [(14, _)] rfl rfl kr_ rfl (QAt.y Wt.none (Yd.notNil rfl))) (all_c (QF.mk [] [] rfl rfl kr_ rfl (QAt.y Wt.none (Yd.move rfl))) (all_n)))))) (all_c ?_ (all_n))
   ·change SO _ _ _ _ _ _ 5 ([(18, _), (17, _)] ++ _) _ _
    refine SO.c rfl Wt.none rfl (Ent.func Tryz.call55 rfl) (ask_tells s.e _ s.ks (CF ++ H) (hF.kv.mono gr_) (by omega) n _ _ (hvk.mono gr_) (hvd.mono gr_)) (Sp.p sp_) ?_
    rintro x H9 ⟨wa, wr, A, B, rfl, hA, hB, rfl⟩
    rw [← hq] at hA hB ⊢
    dsimp only at hA hB ⊢
    obtain ⟨oa, ca, rfl, _⟩ := hA.form
    obtain ⟨or_, cr, rfl, _⟩ := hB.form
    change WAF _ _ _ _ _ _ [(2, 16, _), (1, 15, _), (0, 14, _)] _ [5, 4, 3, 10] ((19, _) :: ([(18, _), (17, _)] ++ _)) _
    refine WAF.add (i := 6) (d := 13) rfl (QF.mk [] [] rfl rfl kr_ rfl (QAt.y Wt.none (Yd.move rfl))) ?_
    refine WAF.add (i := 7) (d := 20) rfl (QF.mk [6] [(13, _)] rfl rfl kr_ rfl (QAt.y Wt.none (Yd.extract rfl rfl))) ?_
    refine WAF.add (i := 8) (d := 21) rfl (QF.mk [6] [(13, _)] rfl rfl kr_ rfl (QAt.y Wt.none (Yd.extract rfl rfl))) ?_
    refine WAF.add (i := 9) (d := 22) rfl (QF.mk [6] [(13, _)] rfl rfl kr_ rfl (QAt.y Wt.none (Yd.extract rfl rfl))) ?_
    refine WAF.add (i := 11) (d := 5) rfl (QF.mk [7, 6, 2, 1, 0] [(20, _), (13, _), (16, _), (15, _), (14, _)] rfl rfl kr_ rfl (QAt.y Wt.none (Yd.assign rfl))) ?_
    refine WAF.step (pd := [(11, 5), (9, 22), (8, 21), (7, 20), (6, 13), (2, 16), (1, 15), (0, 14)]) [(12, [11, 8, 7, 6, 2, 1, 0])] rfl kr_ kr_ (all_c rfl (all_c rfl (all_c rfl (all_c rfl (all_c rfl (all_c rfl (all_c rfl (all_c rfl (all_n))))))))) (all_c (QF.mk [7, 6, 2, 1, 0] [(20, _), (13, _), (16, _), (15, _), (14, _)] rfl rfl kr_ rfl (QAt.y Wt.none (Yd.assign rfl))) (all_c (QF.mk [6] [(13, _)] rfl rfl kr_ rfl (QAt.y Wt.none (Yd.extract rfl rfl))) (all_c (QF.mk [6] [(13, _)] rfl rfl kr_ rfl (QAt.y Wt.none (Yd.extract rfl rfl))) (all_c (QF.mk [6] [(13, _)] rfl rfl kr_ rfl (QAt.y Wt.none (Yd.extract rfl rfl))) (all_c (QF.mk [] [] rfl rfl kr_ rfl (QAt.y Wt.none (Yd.move rfl))) (all_c (QF.mk [1] [(15, _)] rfl rfl kr_ rfl (QAt.y Wt.none (Yd.fieldAddr (k := 3) kr_ rfl))) (all_c (QF.mk [0] [(14, _)] rfl rfl kr_ rfl (QAt.y Wt.none (Yd.notNil rfl))) (all_c (QF.mk [] [] rfl rfl kr_ rfl (QAt.y Wt.none (Yd.move rfl))) (all_n))))))))) (all_c ?_ (all_n))
    ·change SO _ _ _ _ _ _ 12 ([(5, _), (21, _), (20, _), (13, _), (16, _), (15, _), (14, _)] ++ _) _ _
     refine SO.s rfl Wt.none (Hd.storeAll (n := 6) kr_ rfl rfl (by rfl) (kc_one rfl rfl) fr_ (by rfl) ⟨rfl, ?_⟩)
     change WAF _ _ _ _ _ _ [(9, 22, _)] _ [12, 11, 8, 7, 6, 2, 1, 0, 5, 4, 3, 10] (([(5, _), (21, _), (20, _), (13, _), (16, _), (15, _), (14, _)] ++ _)) _
     refine WAF.add (i := 13) (d := 7) rfl (QF.mk [9] [(22, _)] rfl rfl kr_ rfl (QAt.y Wt.none (Yd.assign rfl))) ?_
     refine WAF.done (pd := [(13, 7), (9, 22)]) rfl kr_ kr_ (all_c rfl (all_c rfl (all_n))) (all_c (QF.mk [9] [(22, _)] rfl rfl kr_ rfl (QAt.y Wt.none (Yd.assign rfl))) (all_c (QF.mk [] [] rfl rfl kr_ rfl (QAt.y Wt.none (Yd.extract rfl rfl))) (all_n))) ?_
     change DN _ _ _ _ _ _ ([(7, _), (22, _)] ++ _) _
     exact DN.reachK ((b6, (oa, ca), (or_, cr), A, B)) (⟨hA, hB⟩) (Sx.put rfl (Sx.put rfl (Sx.put rfl (sx_)))) (Sp.all sp_)
 ·rintro ⟨b6, ⟨oa, ca⟩, ⟨or_, cr⟩, A, B⟩ ⟨hA, hB⟩
  dsimp only at hA hB ⊢
  refine WC.seq ?_
  refine WC.block ?_
  refine sr_ ?_
  refine m_ rfl rfl ?_
  refine WL.y rfl (Yd.eql rfl rfl) ?_
  refine a_ rfl rfl ?_
  refine nt_ ?_
  refine WC.ite rfl (fun h23 => ?_) (fun h23 => ?_)
  ·have e72 := hq3.trans h23
   refine WC.seq ?_
   refine WC.draw 13 kr_ rfl ?_
   refine WA.float (N := 13) rfl ?_
   refine WAF.add (i := 0) (d := 26) rfl (QF.mk [] [] rfl rfl kr_ rfl (QAt.y Wt.none (Yd.move rfl))) ?_
   refine WAF.add (i := 1) (d := 27) rfl (QF.mk [0] [(26, _)] rfl rfl kr_ rfl (QAt.y Wt.none (Yd.notNil rfl))) ?_
   refine WAF.add (i := 2) (d := 28) rfl (QF.mk [1] [(27, _)] rfl rfl kr_ rfl (QAt.y Wt.none (Yd.fieldAddr (k := 3) kr_ rfl))) ?_
   refine WAF.add (i := 3) (d := 29) rfl (QF.mk [2] [(28, _)] rfl rfl kr_ rfl (QAt.y Wt.none (Yd.fieldAddr (k := 0) kr_ rfl))) ?_
   refine WAF.add (i := 4) (d := 30) rfl (QF.mk [3] [(29, _)] rfl rfl kr_ rfl (QAt.rd Wt.none (Rd.load1 kr_ rfl mem_ (by rfl)))) ?_
   refine WAF.add (i := 5) (d := 31) rfl (QF.mk [] [] rfl rfl kr_ rfl (QAt.y Wt.none (Yd.fieldAddr (k := 5) kr_ rfl))) ?_
   refine WAF.add (i := 6) (d := 32) rfl (QF.mk [5] [(31, _)] rfl rfl kr_ rfl (QAt.rd Wt.none (Rd.load1 kr_ rfl mem_ (by rfl)))) ?_
   refine WAF.add (i := 7) (d := 33) rfl (QF.mk [] [] rfl rfl kr_ rfl (QAt.y Wt.none (Yd.fieldAddr (k := 6) kr_ rfl))) ?_
   refine WAF.add (i := 8) (d := 34) rfl (QF.mk [7] [(33, _)] rfl rfl kr_ rfl (QAt.rd Wt.none (Rd.load1 kr_ rfl mem_ (by rfl)))) ?_
   refine WAF.add (i := 9) (d := 35) rfl (QF.mk [] [] rfl rfl kr_ rfl (QAt.y Wt.none (Yd.fieldAddr (k := 7) kr_ rfl))) ?_
   refine WAF.add (i := 10) (d := 36) rfl (QF.mk [9] [(35, _)] rfl rfl kr_ rfl (QAt.rd Wt.none (Rd.load1 kr_ rfl mem_ (by rfl)))) ?_
   refine WAF.add (i := 11) (d := 37) rfl (QF.mk [10, 8, 6, 4] [(36, _), (34, _), (32, _), (30, _)] rfl rfl kr_ rfl (QAt.y Wt.none (Yd.buildL (pl := [(0, 1), (1, 1), (2, 1), (3, 1), (4, 1), (5, 1), (6, 1), (7, 1), (8, 1), (9, 1), (10, 1)]) (zs := [.int .i64 0, .int .u32 0, .int .u32 0, .int .u64 0, .int .u64 0, .int .u32 0, .int .i64 0, .bool false, .int .i64 0, .slice none 0 0, .slice none 0 0]) (parts := [(0, .const (.int .i64 9)), (1, .tmp 30), (5, .tmp 32), (6, .tmp 34), (7, .tmp 36)]) (vs := [(0, _), (1, _), (5, _), (6, _), (7, _)]) (cells := [_, _, .int .u32 0, .int .u64 0, .int .u64 0, _, _, _, .int .i64 0, .slice none 0 0, .slice none 0 0]) kr_ kr_ rfl rfl))) ?_
   refine WAF.step (pd := [(11, 37), (10, 36), (9, 35), (8, 34), (7, 33), (6, 32), (5, 31), (4, 30), (3, 29), (2, 28), (1, 27), (0, 26)]) [(12, [11, 10, 9, 8, 7, 6, 5, 4, 3, 2, 1, 0])] rfl kr_ kr_ (all_c rfl (all_c rfl (all_c rfl (all_c rfl (all_c rfl (all_c rfl (all_c rfl (all_c rfl (all_c rfl (all_c rfl (all_c rfl (all_c rfl (all_n))))))))))))) (all_c (QF.mk [10, 8, 6, 4] [(36, _), (34, _), (32, _), (30, _)] rfl rfl kr_ rfl (QAt.y Wt.none (Yd.buildL (pl := [(0, 1), (1, 1), (2, 1), (3, 1), (4, 1), (5, 1), (6, 1), (7, 1), (8, 1), (9, 1), (10, 1)]) (zs := [.int .i64 0, .int .u32 0, .int .u32 0, .int .u64 0, .int .u64 0, .int .u32 0, .int .i64 0, .bool false, .int .i64 0, .slice none 0 0, .slice none 0 0]) (parts := [(0, .const (.int .i64 9)), (1, .tmp 30), (5, .tmp 32), (6, .tmp 34), (7, .tmp 36)]) (vs := [(0, _), (1, _), (5, _), (6, _), (7, _)]) (cells := [_, _, .int .u32 0, .int .u64 0, .int .u64 0, _, _, _, .int .i64 0, .slice none 0 0, .slice none 0 0]) kr_ kr_ rfl rfl))) (all_c (QF.mk [9] [(35, _)] rfl rfl kr_ rfl (QAt.rd Wt.none (Rd.load1 kr_ rfl mem_ (by rfl)))) (all_c (QF.mk [] [] rfl rfl kr_ rfl (QAt.y Wt.none (Yd.fieldAddr (k := 7) kr_ rfl))) (all_c (QF.mk [7] [(33, _)] rfl rfl kr_ rfl (QAt.rd Wt.none (Rd.load1 kr_ rfl mem_ (by rfl)))) (all_c (QF.mk [] [] rfl rfl kr_ rfl (QAt.y Wt.none (Yd.fieldAddr (k := 6) kr_ rfl))) (all_c (QF.mk [5] [(31, _)] rfl rfl kr_ rfl (QAt.rd Wt.none (Rd.load1 kr_ rfl mem_ (by rfl)))) (all_c (QF.mk [] [] rfl rfl kr_ rfl (QAt.y Wt.none (Yd.fieldAddr (k := 5) kr_ rfl))) (all_c (QF.mk [3] [(29, _)] rfl rfl kr_ rfl (QAt.rd Wt.none (Rd.load1 kr_ rfl mem_ (by rfl)))) (all_c (QF.mk [2] [(28, _)] rfl rfl kr_ rfl (QAt.y Wt.none (Yd.fieldAddr (k := 0) kr_ rfl))) (all_c (QF.mk [1] [(27, _)] rfl rfl kr_ rfl (QAt.y Wt.none (Yd.fieldAddr (k := 3) kr_ rfl))) (all_c (QF.mk [0] [(26, _)] rfl rfl kr_ rfl (QAt.y Wt.none (Yd.notNil rfl))) (all_c (QF.mk [] [] rfl rfl kr_ rfl (QAt.y Wt.none (Yd.move rfl))) (all_n))))))))))))) (all_c ?_ (all_n))
   ·change SO _ _ _ _ _ _ 12 ([(37, _), (36, _), (35, _), (34, _), (33, _), (32, _), (31, _), (30, _), (29, _), (28, _), (27, _), (26, _)] ++ _) _ _
    refine SO.s rfl Wt.none (Hd.storeAll (n := 11) kr_ rfl rfl (by rfl) one_ fr_ (by rfl) ⟨rfl, ?_⟩)
    change WAF _ _ _ _ _ _ [] _ [12, 11, 10, 9, 8, 7, 6, 5, 4, 3, 2, 1, 0] (([(37, _), (36, _), (35, _), (34, _), (33, _), (32, _), (31, _), (30, _), (29, _), (28, _), (27, _), (26, _)] ++ _)) _
    refine WAF.done (pd := []) rfl kr_ kr_ (all_n) (all_n) ?_
    change DN _ _ _ _ _ _ ([] ++ _) _
    refine DN.then_normal ?_
    refine WC.ret ?_
    refine DN.block_ret ?_
    refine DN.then_ret ?_
    refine DN.retCS (s := 11) ((row p [.pointer (some ⟨pd, 0, none⟩), .pointer (some ⟨ps, 0, none⟩), .pointer (some ⟨pp, 0, none⟩), .int .u32 s.e.toNat, .slice lo s.ks.length lc, .slice eo s.ef.length ec, .slice no s.no.length nc] 116 :: (CS ++ (CP ++ (CD ++ (CF ++ (CE ++ (CN ++ DO))))))) ++ H) Tryz.results22 kr_ rfl mem_ (by rfl) sp_ ?_
    rw [(serve_72 (hq3.trans h23)).1, (serve_72 (hq3.trans h23)).2]
    exact ⟨_, _, [], rfl, ⟨pd, ps, pp, _, _, _, _, _, _, _, _, _, _, _, rfl, hS, hP, hD, hF, hE, hN, hO⟩, Ob.nil _, rfl⟩
  ·refine sr_ ?_
   refine m_ rfl rfl ?_
   refine WL.y rfl (Yd.eql rfl rfl) ?_
   refine a_ rfl rfl ?_
   refine nt_ ?_
   refine WC.ite rfl (fun h38 => ?_) (fun h38 => ?_)
   ·refine sr_ ?_
    refine m_ rfl rfl ?_
    refine n_ rfl rfl ?_
    refine f_ 3 kr_ rfl rfl ?_
    refine f_ 0 kr_ rfl rfl ?_
    refine d_ kr_ rfl mem_ (by rfl) rfl ?_
    refine WL.y rfl (Yd.buildL (pl := [(0, 1), (1, 1), (2, 1), (3, 1), (4, 1), (5, 1), (6, 1), (7, 1), (8, 1), (9, 1), (10, 1)]) (zs := [.int .i64 0, .int .u32 0, .int .u32 0, .int .u64 0, .int .u64 0, .int .u32 0, .int .i64 0, .bool false, .int .i64 0, .slice none 0 0, .slice none 0 0]) (parts := [(0, .const (.int .i64 6)), (1, .tmp 45), (8, .const (.int .i64 2))]) (vs := [(0, _), (1, _), (8, _)]) (cells := [_, _, .int .u32 0, .int .u64 0, .int .u64 0, .int .u32 0, .int .i64 0, .bool false, _, .slice none 0 0, .slice none 0 0]) kr_ kr_ rfl rfl) ?_
    refine WL.s (Hd.storeAll (n := 11) kr_ rfl rfl (by rfl) one_ fr_ (by rfl) ⟨rfl, ?_⟩)
    refine nt_ ?_
    refine WC.ret ?_
    refine DN.block_ret ?_
    refine DN.then_ret ?_
    refine DN.retCS (s := 11) ((row p [.pointer (some ⟨pd, 0, none⟩), .pointer (some ⟨ps, 0, none⟩), .pointer (some ⟨pp, 0, none⟩), .int .u32 s.e.toNat, .slice lo s.ks.length lc, .slice eo s.ef.length ec, .slice no s.no.length nc] 116 :: (CS ++ (CP ++ (CD ++ (CF ++ (CE ++ (CN ++ DO))))))) ++ H) Tryz.results22 kr_ rfl mem_ (by rfl) sp_ ?_
    rw [(serve_80 (fun e => h23 (hq3.symm.trans e)) (hq3.trans h38)).1, (serve_80 (fun e => h23 (hq3.symm.trans e)) (hq3.trans h38)).2]
    exact ⟨_, _, [], rfl, ⟨pd, ps, pp, _, _, _, _, _, _, _, _, _, _, _, rfl, hS, hP, hD, hF, hE, hN, hO⟩, Ob.nil _, rfl⟩
   ·refine sr_ ?_
    refine m_ rfl rfl ?_
    refine WL.y rfl (Yd.neq rfl rfl) ?_
    refine a_ rfl rfl ?_
    refine nt_ ?_
    refine WC.ite rfl (fun h47 => ?_) (fun h47 => ?_)
    ·refine sr_ ?_
     refine m_ rfl rfl ?_
     refine n_ rfl rfl ?_
     refine f_ 3 kr_ rfl rfl ?_
     refine f_ 0 kr_ rfl rfl ?_
     refine d_ kr_ rfl mem_ (by rfl) rfl ?_
     refine WL.y rfl (Yd.buildL (pl := [(0, 1), (1, 1), (2, 1), (3, 1), (4, 1), (5, 1), (6, 1), (7, 1), (8, 1), (9, 1), (10, 1)]) (zs := [.int .i64 0, .int .u32 0, .int .u32 0, .int .u64 0, .int .u64 0, .int .u32 0, .int .i64 0, .bool false, .int .i64 0, .slice none 0 0, .slice none 0 0]) (parts := [(0, .const (.int .i64 6)), (1, .tmp 54), (8, .const (.int .i64 1))]) (vs := [(0, _), (1, _), (8, _)]) (cells := [_, _, .int .u32 0, .int .u64 0, .int .u64 0, .int .u32 0, .int .i64 0, .bool false, _, .slice none 0 0, .slice none 0 0]) kr_ kr_ rfl rfl) ?_
     refine WL.s (Hd.storeAll (n := 11) kr_ rfl rfl (by rfl) one_ fr_ (by rfl) ⟨rfl, ?_⟩)
     refine nt_ ?_
     refine WC.ret ?_
     refine DN.block_ret ?_
     refine DN.then_ret ?_
     refine DN.retCS (s := 11) ((row p [.pointer (some ⟨pd, 0, none⟩), .pointer (some ⟨ps, 0, none⟩), .pointer (some ⟨pp, 0, none⟩), .int .u32 s.e.toNat, .slice lo s.ks.length lc, .slice eo s.ef.length ec, .slice no s.no.length nc] 116 :: (CS ++ (CP ++ (CD ++ (CF ++ (CE ++ (CN ++ DO))))))) ++ H) Tryz.results22 kr_ rfl mem_ (by rfl) sp_ ?_
     rw [(serve_no (fun e => h23 (hq3.symm.trans e)) (fun e => h38 (hq3.symm.trans e)) (by rw [hq3]; exact h47)).1, (serve_no (fun e => h23 (hq3.symm.trans e)) (fun e => h38 (hq3.symm.trans e)) (by rw [hq3]; exact h47)).2]
     exact ⟨_, _, [], rfl, ⟨pd, ps, pp, _, _, _, _, _, _, _, _, _, _, _, rfl, hS, hP, hD, hF, hE, hN, hO⟩, Ob.nil _, rfl⟩
    ·have her : (askK s.e s.ks n).2.2 = 0 := hq3.trans (Classical.byContradiction h47)
     have hgo := askK_ok her
     have hdl : n.data.length ≤ 1000 := by
       have h9 : noteBad n = false := by
         cases e9 : noteBad n
         · rfl
         · exact absurd (.inr (.inr (.inl e9))) hgo.1
       have := (noteBad_step h9).2.2
       omega
     refine sr_ ?_
     refine m_ rfl rfl ?_
     refine WL.y rfl (Yd.eql rfl rfl) ?_
     refine a_ rfl rfl ?_
     refine nt_ ?_
     refine WC.ite rfl (fun h56 => ?_) (fun h56 => ?_)
     ·refine WC.seq ?_
      refine WC.draw 14 kr_ rfl ?_
      refine WA.float (N := 14) rfl ?_
      refine WAF.add (i := 0) (d := 60) rfl (QF.mk [] [] rfl rfl kr_ rfl (QAt.y Wt.none (Yd.move rfl))) ?_
      refine WAF.add (i := 1) (d := 61) rfl (QF.mk [] [] rfl rfl kr_ rfl (QAt.y Wt.none (Yd.move rfl))) ?_
      refine WAF.add (i := 2) (d := 62) rfl (QF.mk [1] [(61, _)] rfl rfl kr_ rfl (QAt.y Wt.none (Yd.notNil rfl))) ?_
      refine WAF.add (i := 3) (d := 63) rfl (QF.mk [2] [(62, _)] rfl rfl kr_ rfl (QAt.y Wt.none (Yd.fieldAddr (k := 3) kr_ rfl))) ?_
      refine WAF.add (i := 4) (d := 64) rfl (QF.mk [3] [(63, _)] rfl rfl kr_ rfl (QAt.rd Wt.none (Rd.loadA (n := 2) (vs := [_, _]) kr_ rfl mem_ (by rfl) (by rfl)))) ?_
      refine WAF.add (i := 5) (d := 65) rfl (QF.mk [] [] rfl rfl kr_ rfl (QAt.y Wt.none (Yd.fieldAddr (k := 1) kr_ rfl))) ?_
      refine WAF.add (i := 6) (d := 66) rfl (QF.mk [5] [(65, _)] rfl rfl kr_ rfl (QAt.rd Wt.none (Rd.load1 kr_ rfl mem_ (by rfl)))) ?_
      refine WAF.step (pd := [(6, 66), (5, 65), (4, 64), (3, 63), (2, 62), (1, 61), (0, 60)]) [(7, [6, 4])] rfl kr_ kr_ (all_c rfl (all_c rfl (all_c rfl (all_c rfl (all_c rfl (all_c rfl (all_c rfl (all_n)))))))) (all_c (QF.mk [5] [(65, _)] rfl rfl kr_ rfl (QAt.rd Wt.none (Rd.load1 kr_ rfl mem_ (by rfl)))) (all_c (QF.mk [] [] rfl rfl kr_ rfl (QAt.y Wt.none (Yd.fieldAddr (k := 1) kr_ rfl))) (all_c (QF.mk [3] [(63, _)] rfl rfl kr_ rfl (QAt.rd Wt.none (Rd.loadA (n := 2) (vs := [_, _]) kr_ rfl mem_ (by rfl) (by rfl)))) (all_c (QF.mk [2] [(62, _)] rfl rfl kr_ rfl (QAt.y Wt.none (Yd.fieldAddr (k := 3) kr_ rfl))) (all_c (QF.mk [1] [(61, _)] rfl rfl kr_ rfl (QAt.y Wt.none (Yd.notNil rfl))) (all_c (QF.mk [] [] rfl rfl kr_ rfl (QAt.y Wt.none (Yd.move rfl))) (all_c (QF.mk [] [] rfl rfl kr_ rfl (QAt.y Wt.none (Yd.move rfl))) (all_n)))))))) (all_c ?_ (all_n))
      ·change SO _ _ _ _ _ _ 7 ([(66, _), (64, _)] ++ _) _ _
       refine SO.c rfl Wt.none rfl (Ent.func Tryz.call56 rfl) (see_tells s.e _ s.ks CF hF.kv (by omega) n.epoch) (Sp.p sp_) ?_
       rintro x H9 ⟨ws, DS, rfl, hSF, rfl⟩
       obtain ⟨so, sc, rfl⟩ := hSF.form
       change WAF _ _ _ _ _ _ [(5, 65, _), (3, 63, _), (2, 62, _), (1, 61, _), (0, 60, _)] _ [7, 6, 4] ((67, _) :: ([(66, _), (64, _)] ++ _)) _
       refine WAF.add (i := 8) (d := 59) rfl (QF.mk [] [] rfl rfl kr_ rfl (QAt.y Wt.none (Yd.move rfl))) ?_
       refine WAF.add (i := 9) (d := 68) rfl (QF.mk [8] [(59, _)] rfl rfl kr_ rfl (QAt.y Wt.none (Yd.extract rfl rfl))) ?_
       refine WAF.add (i := 10) (d := 69) rfl (QF.mk [8] [(59, _)] rfl rfl kr_ rfl (QAt.y Wt.none (Yd.extract rfl rfl))) ?_
       refine WAF.add (i := 11) (d := 70) rfl (QF.mk [9, 8, 5, 3, 2, 1, 0] [(68, _), (59, _), (65, _), (63, _), (62, _), (61, _), (60, _)] rfl rfl kr_ rfl (QAt.y Wt.none (Yd.notNil rfl))) ?_
       refine WAF.add (i := 12) (d := 71) rfl (QF.mk [11, 9, 8, 5, 3, 2, 1, 0] [(70, _), (68, _), (59, _), (65, _), (63, _), (62, _), (61, _), (60, _)] rfl rfl kr_ rfl (QAt.y Wt.none (Yd.fieldAddr (k := 3) kr_ rfl))) ?_
       refine WAF.step (pd := [(12, 71), (11, 70), (10, 69), (9, 68), (8, 59), (5, 65), (3, 63), (2, 62), (1, 61), (0, 60)]) [(13, [12, 9, 8, 5, 3, 2, 1, 0])] rfl kr_ kr_ (all_c rfl (all_c rfl (all_c rfl (all_c rfl (all_c rfl (all_c rfl (all_c rfl (all_c rfl (all_c rfl (all_c rfl (all_n))))))))))) (all_c (QF.mk [11, 9, 8, 5, 3, 2, 1, 0] [(70, _), (68, _), (59, _), (65, _), (63, _), (62, _), (61, _), (60, _)] rfl rfl kr_ rfl (QAt.y Wt.none (Yd.fieldAddr (k := 3) kr_ rfl))) (all_c (QF.mk [9, 8, 5, 3, 2, 1, 0] [(68, _), (59, _), (65, _), (63, _), (62, _), (61, _), (60, _)] rfl rfl kr_ rfl (QAt.y Wt.none (Yd.notNil rfl))) (all_c (QF.mk [8] [(59, _)] rfl rfl kr_ rfl (QAt.y Wt.none (Yd.extract rfl rfl))) (all_c (QF.mk [8] [(59, _)] rfl rfl kr_ rfl (QAt.y Wt.none (Yd.extract rfl rfl))) (all_c (QF.mk [] [] rfl rfl kr_ rfl (QAt.y Wt.none (Yd.move rfl))) (all_c (QF.mk [] [] rfl rfl kr_ rfl (QAt.y Wt.none (Yd.fieldAddr (k := 1) kr_ rfl))) (all_c (QF.mk [2] [(62, _)] rfl rfl kr_ rfl (QAt.y Wt.none (Yd.fieldAddr (k := 3) kr_ rfl))) (all_c (QF.mk [1] [(61, _)] rfl rfl kr_ rfl (QAt.y Wt.none (Yd.notNil rfl))) (all_c (QF.mk [] [] rfl rfl kr_ rfl (QAt.y Wt.none (Yd.move rfl))) (all_c (QF.mk [] [] rfl rfl kr_ rfl (QAt.y Wt.none (Yd.move rfl))) (all_n))))))))))) (all_c ?_ (all_n))
       ·change SO _ _ _ _ _ _ 13 ([(71, _), (68, _), (59, _), (65, _), (63, _), (62, _), (61, _), (60, _)] ++ _) _ _
        refine SO.s rfl Wt.none (Hd.storeP (n := 2) kr_ rfl rfl (by rfl) one_ fr_ (by show 0 + 3 + 2 ≤ 7; decide) (by rfl) ⟨rfl, ?_⟩)
        change WAF _ _ _ _ _ _ [(11, 70, _), (10, 69, _)] _ [13, 12, 9, 8, 5, 3, 2, 1, 0, 7, 6, 4] (([(71, _), (68, _), (59, _), (65, _), (63, _), (62, _), (61, _), (60, _)] ++ _)) _
        refine WAF.done (pd := [(11, 70), (10, 69)]) rfl kr_ kr_ (all_c rfl (all_c rfl (all_n))) (all_c (QF.mk [] [] rfl rfl kr_ rfl (QAt.y Wt.none (Yd.notNil rfl))) (all_c (QF.mk [] [] rfl rfl kr_ rfl (QAt.y Wt.none (Yd.extract rfl rfl))) (all_n))) ?_
        change DN _ _ _ _ _ _ ([(70, _), (69, _)] ++ _) _
        refine ts_ ?_
        refine WC.region ?_
        refine WL.h rfl (Hd.loadAll (n := 11) kr_ rfl mem_ (by rfl) ⟨_, rfl, ?_⟩)
        refine f_ 4 kr_ rfl rfl ?_
        refine d_ kr_ rfl mem_ (by rfl) rfl ?_
        refine f_ 5 kr_ rfl rfl ?_
        refine d_ kr_ rfl mem_ (by rfl) rfl ?_
        refine WL.c rfl (Ent.func Tryz.call57 rfl) (done_tells n _ _ ⟨_, _, rfl⟩ ⟨_, _, rfl⟩ kk.code _ kk.reply B hB.bs (by omega)) (Sp.p sp_) ?_
        rintro x H9 ⟨wd, AD, rfl, hAD, rfl⟩
        obtain ⟨od, cd, rfl, _⟩ := hAD.form
        refine WL.s (Hd.storeAll (n := 11) kr_ rfl rfl (by rfl) one_ fr_ (by rfl) ⟨rfl, ?_⟩)
        refine nt_ ?_
        refine WC.ret ?_
        refine DN.block_ret ?_
        refine DN.then_ret ?_
        refine DN.retCS (s := 11) ((row p [.pointer (some ⟨pd, 0, none⟩), .pointer (some ⟨ps, 0, none⟩), .pointer (some ⟨pp, 0, none⟩), .int .u32 (seeK s.e s.ks n.epoch).1.toNat, .slice so (seeK s.e s.ks n.epoch).2.1.length sc, .slice eo s.ef.length ec, .slice no s.no.length nc] 116 :: (CS ++ (CP ++ (CD ++ (DS ++ (CE ++ (CN ++ DO))))))) ++ (AD ++ H)) Tryz.results22 kr_ rfl mem_ (by rfl) sp_ ?_
        have g := serve_again (s := s) (n := n) (by rw [hq3]; exact h47) (hq1.trans h56)
        rw [hq2] at g
        rw [g.1, g.2]
        exact ⟨_, _, AD, rfl, ⟨pd, ps, pp, _, _, _, CS, CP, CD, DS, CE, cn, CN, DO, rfl, hS, hP, hD, hSF, hE, hN, hO⟩, hAD, rfl⟩
     ·refine sr_ ?_
      refine m_ rfl rfl ?_
      refine n_ rfl rfl ?_
      refine f_ 3 kr_ rfl rfl ?_
      refine f_ 1 kr_ rfl rfl ?_
      refine d_ kr_ rfl mem_ (by rfl) rfl ?_
      refine WL.y rfl (Yd.len (e := 118) kr_ rfl) ?_
      refine WL.y rfl (Yd.geq rfl rfl) ?_
      refine a_ rfl rfl ?_
      refine nt_ ?_
      refine WC.ite rfl (fun h78 => ?_) (fun h78 => ?_)
      ·refine sr_ ?_
       refine m_ rfl rfl ?_
       refine n_ rfl rfl ?_
       refine f_ 3 kr_ rfl rfl ?_
       refine f_ 0 kr_ rfl rfl ?_
       refine d_ kr_ rfl mem_ (by rfl) rfl ?_
       refine WL.y rfl (Yd.buildL (pl := [(0, 1), (1, 1), (2, 1), (3, 1), (4, 1), (5, 1), (6, 1), (7, 1), (8, 1), (9, 1), (10, 1)]) (zs := [.int .i64 0, .int .u32 0, .int .u32 0, .int .u64 0, .int .u64 0, .int .u32 0, .int .i64 0, .bool false, .int .i64 0, .slice none 0 0, .slice none 0 0]) (parts := [(0, .const (.int .i64 6)), (1, .tmp 90), (8, .const (.int .i64 3))]) (vs := [(0, _), (1, _), (8, _)]) (cells := [_, _, .int .u32 0, .int .u64 0, .int .u64 0, .int .u32 0, .int .i64 0, .bool false, _, .slice none 0 0, .slice none 0 0]) kr_ kr_ rfl rfl) ?_
       refine WL.s (Hd.storeAll (n := 11) kr_ rfl rfl (by rfl) one_ fr_ (by rfl) ⟨rfl, ?_⟩)
       refine nt_ ?_
       refine WC.ret ?_
       refine DN.block_ret ?_
       refine DN.then_ret ?_
       refine DN.retCS (s := 11) ((row p [.pointer (some ⟨pd, 0, none⟩), .pointer (some ⟨ps, 0, none⟩), .pointer (some ⟨pp, 0, none⟩), .int .u32 s.e.toNat, .slice lo s.ks.length lc, .slice eo s.ef.length ec, .slice no s.no.length nc] 116 :: (CS ++ (CP ++ (CD ++ (CF ++ (CE ++ (CN ++ DO))))))) ++ H) Tryz.results22 kr_ rfl mem_ (by rfl) sp_ ?_
       rw [(serve_full (by rw [hq3]; exact h47) (by rw [hq1]; exact h56) (by omega)).1, (serve_full (by rw [hq3]; exact h47) (by rw [hq1]; exact h56) (by omega)).2]
       exact ⟨_, _, [], rfl, ⟨pd, ps, pp, _, _, _, _, _, _, _, _, _, _, _, rfl, hS, hP, hD, hF, hE, hN, hO⟩, Ob.nil _, rfl⟩
      ·refine WC.skip ?_
       refine DN.block_normal ?_
       refine ts_ ?_
       refine WC.region ?_
       refine a_ rfl rfl ?_
       refine a_ rfl rfl ?_
       refine nt_ ?_
       refine WC.cutK (fun z : Int × List (BitVec 8) × List Ck × (Option Addr × Nat) × List Ck => z.1 = codeOf s n act ∧ z.2.1 = replyOf s n act ∧ CwAt 189 198 203 3 5 118 111 22 116 p (didS s n act) z.2.2.1 ∧ Ob 5 (.slice z.2.2.2.1.1 z.2.1.length z.2.2.2.1.2) z.2.1 z.2.2.2.2) (fun z : Int × List (BitVec 8) × List Ck × (Option Addr × Nat) × List Ck => [(8, .int .i64 z.1), (9, .slice z.2.2.2.1.1 z.2.1.length z.2.2.2.1.2)]) (fun z : Int × List (BitVec 8) × List Ck × (Option Addr × Nat) × List Ck => z.2.2.1 ++ (z.2.2.2.2 ++ (row b4 [.int .i64 0, .int .u32 0, .int .u32 0, .int .u64 0, .int .u64 0, .int .u32 0, .int .i64 0, .bool false, .int .i64 0, .slice none 0 0, .slice none 0 0] 52 :: (row b3 (ntc n (.slice ko n.key.length kc9) (.slice do_ n.data.length dc)) 52 :: H)))) ?_ ?_
       ·refine sr_ ?_
        refine m_ rfl rfl ?_
        refine nt_ ?_
        refine WC.block ?_
        refine sr_ ?_
        refine WL.y rfl (Yd.eql rfl rfl) ?_
        refine a_ rfl rfl ?_
        refine nt_ ?_
        refine WC.ite rfl (fun h93 => ?_) (fun h93 => ?_)
        ·refine WC.region ?_
         refine a_ rfl rfl ?_
         refine WL.nil ?_
         refine DN.block_normal ?_
         exact DN.reachS ((1, [], row p [.pointer (some ⟨pd, 0, none⟩), .pointer (some ⟨ps, 0, none⟩), .pointer (some ⟨pp, 0, none⟩), .int .u32 s.e.toNat, .slice lo s.ks.length lc, .slice eo s.ef.length ec, .slice no s.no.length nc] 116 :: (CS ++ (CP ++ (CD ++ (CF ++ (CE ++ (CN ++ DO)))))), (none, 0), [])) (by have g := did_4 (s := s) (n := n) h93; exact ⟨g.1.symm, g.2.1.symm, by rw [g.2.2]; exact ⟨pd, ps, pp, _, _, _, _, _, _, _, _, _, _, _, rfl, hS, hP, hD, hF, hE, hN, hO⟩, Ob.nil _⟩) (Sx.put rfl (Sx.put rfl (sx_))) sp_
        ·refine sr_ ?_
         refine WL.y rfl (Yd.eql rfl rfl) ?_
         refine a_ rfl rfl ?_
         refine nt_ ?_
         refine WC.ite rfl (fun h95 => ?_) (fun h95 => ?_)
         ·refine sr_ ?_
          refine m_ rfl rfl ?_
          refine WL.h rfl (Hd.loadAll (n := 11) kr_ rfl mem_ (by rfl) ⟨_, rfl, ?_⟩)
          refine WL.c rfl (Ent.func Tryz.call58 rfl) (do_tells p s _ hAt inv.st inv.pu inv.dk (by omega) n _ _ H ⟨_, _, rfl⟩ hvd hdl) (Sp.p sp_) ?_
          rintro x H9 ⟨C9, xr, AR, rfl, h9, hAR, rfl⟩
          obtain ⟨ro, rc, rfl, _⟩ := hAR.form
          refine m_ rfl rfl ?_
          refine x_ rfl rfl rfl ?_
          refine x_ rfl rfl rfl ?_
          refine a_ rfl rfl ?_
          refine a_ rfl rfl ?_
          refine ntsr_ ?_
          refine m_ rfl rfl ?_
          refine WL.y rfl (Yd.eql rfl rfl) ?_
          refine nt_ ?_
          refine WC.ite rfl (fun h104 => ?_) (fun h104 => ?_)
          ·have hF9 : (doS s n).ef.length = s.ef.length := by rw [do_fence.2.2]
           refine WC.draw 17 kr_ rfl ?_
           refine WA.float (N := 17) rfl ?_
           refine WAF.add (i := 0) (d := 105) rfl (QF.mk [] [] rfl rfl kr_ rfl (QAt.y Wt.none (Yd.move rfl))) ?_
           refine WAF.add (i := 1) (d := 106) rfl (QF.mk [] [] rfl rfl kr_ rfl (QAt.y Wt.none (Yd.move rfl))) ?_
           refine WAF.add (i := 2) (d := 107) rfl (QF.mk [1] [(106, _)] rfl rfl kr_ rfl (QAt.y Wt.none (Yd.notNil rfl))) ?_
           refine WAF.add (i := 3) (d := 108) rfl (QF.mk [2] [(107, _)] rfl rfl kr_ rfl (QAt.y Wt.none (Yd.fieldAddr (k := 5) kr_ rfl))) ?_
           obtain ⟨pd, ps, pp, vL, vE, vN, CS, CP, CD, CF, CE, cn, CN, DO, rfl, hS, hP, hD, hF, hE, hN, hO⟩ := h9
           obtain ⟨lo, lc, rfl⟩ := hF.form
           obtain ⟨eo, ec, rfl, hec⟩ := hE.form
           obtain ⟨no, nc, rfl, hnc⟩ := hN.form
           refine WAF.add (i := 4) (d := 109) rfl (QF.mk [3] [(108, _)] rfl rfl kr_ rfl (QAt.rd Wt.none (Rd.load1 kr_ rfl mem_ (by rfl)))) ?_
           refine WAF.add (i := 5) (d := 110) rfl (QF.mk [] [] rfl rfl kr_ rfl (QAt.y Wt.none (Yd.fieldAddr (k := 5) kr_ rfl))) ?_
           refine WAF.add (i := 6) (d := 111) rfl (QF.mk [5] [(110, _)] rfl rfl kr_ rfl (QAt.rd Wt.none (Rd.load1 kr_ rfl mem_ (by rfl)))) ?_
           refine WAF.add (i := 7) (d := 112) rfl (QF.mk [] [] rfl rfl kr_ rfl (QAt.y Wt.none (Yd.fieldAddr (k := 6) kr_ rfl))) ?_
           refine WAF.add (i := 8) (d := 113) rfl (QF.mk [7] [(112, _)] rfl rfl kr_ rfl (QAt.rd Wt.none (Rd.load1 kr_ rfl mem_ (by rfl)))) ?_
           refine WAF.add (i := 9) (d := 114) rfl (QF.mk [] [] rfl rfl kr_ rfl (QAt.y Wt.none (Yd.fieldAddr (k := 7) kr_ rfl))) ?_
           refine WAF.add (i := 10) (d := 115) rfl (QF.mk [9] [(114, _)] rfl rfl kr_ rfl (QAt.rd Wt.none (Rd.load1 kr_ rfl mem_ (by rfl)))) ?_
           refine WAF.add (i := 11) (d := 116) rfl (QF.mk [10, 8, 6] [(115, _), (113, _), (111, _)] rfl rfl kr_ rfl (QAt.y Wt.none (Yd.buildL (pl := [(0, 1), (1, 1), (2, 1)]) (zs := [.int .u32 0, .int .i64 0, .bool false]) (parts := [(0, .tmp 111), (1, .tmp 113), (2, .tmp 115)]) (vs := [(0, _), (1, _), (2, _)]) (cells := [_, _, _]) kr_ kr_ rfl rfl))) ?_
           refine WAF.step (pd := [(11, 116), (10, 115), (9, 114), (8, 113), (7, 112), (6, 111), (5, 110), (4, 109), (3, 108), (2, 107), (1, 106), (0, 105)]) [(12, [11])] rfl kr_ kr_ (all_c rfl (all_c rfl (all_c rfl (all_c rfl (all_c rfl (all_c rfl (all_c rfl (all_c rfl (all_c rfl (all_c rfl (all_c rfl (all_c rfl (all_n))))))))))))) (all_c (QF.mk [10, 8, 6] [(115, _), (113, _), (111, _)] rfl rfl kr_ rfl (QAt.y Wt.none (Yd.buildL (pl := [(0, 1), (1, 1), (2, 1)]) (zs := [.int .u32 0, .int .i64 0, .bool false]) (parts := [(0, .tmp 111), (1, .tmp 113), (2, .tmp 115)]) (vs := [(0, _), (1, _), (2, _)]) (cells := [_, _, _]) kr_ kr_ rfl rfl))) (all_c (QF.mk [9] [(114, _)] rfl rfl kr_ rfl (QAt.rd Wt.none (Rd.load1 kr_ rfl mem_ (by rfl)))) (all_c (QF.mk [] [] rfl rfl kr_ rfl (QAt.y Wt.none (Yd.fieldAddr (k := 7) kr_ rfl))) (all_c (QF.mk [7] [(112, _)] rfl rfl kr_ rfl (QAt.rd Wt.none (Rd.load1 kr_ rfl mem_ (by rfl)))) (all_c (QF.mk [] [] rfl rfl kr_ rfl (QAt.y Wt.none (Yd.fieldAddr (k := 6) kr_ rfl))) (all_c (QF.mk [5] [(110, _)] rfl rfl kr_ rfl (QAt.rd Wt.none (Rd.load1 kr_ rfl mem_ (by rfl)))) (all_c (QF.mk [] [] rfl rfl kr_ rfl (QAt.y Wt.none (Yd.fieldAddr (k := 5) kr_ rfl))) (all_c (QF.mk [3] [(108, _)] rfl rfl kr_ rfl (QAt.rd Wt.none (Rd.load1 kr_ rfl mem_ (by rfl)))) (all_c (QF.mk [2] [(107, _)] rfl rfl kr_ rfl (QAt.y Wt.none (Yd.fieldAddr (k := 5) kr_ rfl))) (all_c (QF.mk [1] [(106, _)] rfl rfl kr_ rfl (QAt.y Wt.none (Yd.notNil rfl))) (all_c (QF.mk [] [] rfl rfl kr_ rfl (QAt.y Wt.none (Yd.move rfl))) (all_c (QF.mk [] [] rfl rfl kr_ rfl (QAt.y Wt.none (Yd.move rfl))) (all_n))))))))))))) (all_c ?_ (all_n))
           ·change SO _ _ _ _ _ _ 12 ([(116, _)] ++ _) _ _
            refine SO.h rfl Wt.none rfl (Hd.buildA (e := 111) (sz := 3) (zs := [.int .u32 0, .int .i64 0, .bool false]) kr_ kr_ kr_ rfl rfl (by rfl) kr_ fun b117 => ⟨_, rfl, ?_⟩)
            change WAF _ _ _ _ _ _ [(10, 115, _), (9, 114, _), (8, 113, _), (7, 112, _), (6, 111, _), (5, 110, _), (4, 109, _), (3, 108, _), (2, 107, _), (1, 106, _), (0, 105, _)] _ [12, 11] ((117, _) :: ([(116, _)] ++ _)) _
            refine WAF.step (pd := [(10, 115), (9, 114), (8, 113), (7, 112), (6, 111), (5, 110), (4, 109), (3, 108), (2, 107), (1, 106), (0, 105)]) [(13, [4])] rfl kr_ kr_ (all_c rfl (all_c rfl (all_c rfl (all_c rfl (all_c rfl (all_c rfl (all_c rfl (all_c rfl (all_c rfl (all_c rfl (all_c rfl (all_n)))))))))))) (all_c (QF.mk [9] [(114, _)] rfl rfl kr_ rfl (QAt.rd Wt.none (Rd.load1 kr_ rfl mem_ (by rfl)))) (all_c (QF.mk [] [] rfl rfl kr_ rfl (QAt.y Wt.none (Yd.fieldAddr (k := 7) kr_ rfl))) (all_c (QF.mk [7] [(112, _)] rfl rfl kr_ rfl (QAt.rd Wt.none (Rd.load1 kr_ rfl mem_ (by rfl)))) (all_c (QF.mk [] [] rfl rfl kr_ rfl (QAt.y Wt.none (Yd.fieldAddr (k := 6) kr_ rfl))) (all_c (QF.mk [5] [(110, _)] rfl rfl kr_ rfl (QAt.rd Wt.none (Rd.load1 kr_ rfl mem_ (by rfl)))) (all_c (QF.mk [] [] rfl rfl kr_ rfl (QAt.y Wt.none (Yd.fieldAddr (k := 5) kr_ rfl))) (all_c (QF.mk [3] [(108, _)] rfl rfl kr_ rfl (QAt.rd Wt.none (Rd.load1 kr_ rfl mem_ (by rfl)))) (all_c (QF.mk [2] [(107, _)] rfl rfl kr_ rfl (QAt.y Wt.none (Yd.fieldAddr (k := 5) kr_ rfl))) (all_c (QF.mk [1] [(106, _)] rfl rfl kr_ rfl (QAt.y Wt.none (Yd.notNil rfl))) (all_c (QF.mk [] [] rfl rfl kr_ rfl (QAt.y Wt.none (Yd.move rfl))) (all_c (QF.mk [] [] rfl rfl kr_ rfl (QAt.y Wt.none (Yd.move rfl))) (all_n)))))))))))) (all_c ?_ (all_n))
            ·change SO _ _ _ _ _ _ 13 ([(109, _)] ++ _) _ _
             refine SO.h rfl Wt.none rfl (Hd.appendRow (e := 111) (sz := 3) (bytes := 24) (zs := [.int .u32 0, .int .i64 0, .bool false]) kr_ kr_ rfl (by omega) rfl rfl (hE) sp_ mem_ (by rfl) (efc_one (⟨n.order, n.step, n.undo⟩ : Ef)) (by simp only [maxLen]; omega) (by omega) fun v2 C2 h2 => ⟨_, rfl, ?_⟩)
             change WAF _ _ _ _ _ _ [(10, 115, _), (9, 114, _), (8, 113, _), (7, 112, _), (6, 111, _), (5, 110, _), (3, 108, _), (2, 107, _), (1, 106, _), (0, 105, _)] _ [13, 4, 12, 11] ((118, _) :: ([(109, _)] ++ _)) _
             obtain ⟨eo2, ec2, rfl, _⟩ := h2.form
             refine WAF.add (i := 14) (d := 119) rfl (QF.mk [10, 9, 8, 7, 6, 5, 3, 2, 1, 0] [(115, _), (114, _), (113, _), (112, _), (111, _), (110, _), (108, _), (107, _), (106, _), (105, _)] rfl rfl kr_ rfl (QAt.y Wt.none (Yd.notNil rfl))) ?_
             refine WAF.add (i := 15) (d := 120) rfl (QF.mk [14, 10, 9, 8, 7, 6, 5, 3, 2, 1, 0] [(119, _), (115, _), (114, _), (113, _), (112, _), (111, _), (110, _), (108, _), (107, _), (106, _), (105, _)] rfl rfl kr_ rfl (QAt.y Wt.none (Yd.fieldAddr (k := 5) kr_ rfl))) ?_
             refine WAF.step (pd := [(15, 120), (14, 119), (10, 115), (9, 114), (8, 113), (7, 112), (6, 111), (5, 110), (3, 108), (2, 107), (1, 106), (0, 105)]) [(16, [15, 10, 9, 8, 7, 6, 5, 3, 2, 1, 0])] rfl kr_ kr_ (all_c rfl (all_c rfl (all_c rfl (all_c rfl (all_c rfl (all_c rfl (all_c rfl (all_c rfl (all_c rfl (all_c rfl (all_c rfl (all_c rfl (all_n))))))))))))) (all_c (QF.mk [14, 10, 9, 8, 7, 6, 5, 3, 2, 1, 0] [(119, _), (115, _), (114, _), (113, _), (112, _), (111, _), (110, _), (108, _), (107, _), (106, _), (105, _)] rfl rfl kr_ rfl (QAt.y Wt.none (Yd.fieldAddr (k := 5) kr_ rfl))) (all_c (QF.mk [10, 9, 8, 7, 6, 5, 3, 2, 1, 0] [(115, _), (114, _), (113, _), (112, _), (111, _), (110, _), (108, _), (107, _), (106, _), (105, _)] rfl rfl kr_ rfl (QAt.y Wt.none (Yd.notNil rfl))) (all_c (QF.mk [9] [(114, _)] rfl rfl kr_ rfl (QAt.rd Wt.none (Rd.load1 kr_ rfl mem_ (by rfl)))) (all_c (QF.mk [] [] rfl rfl kr_ rfl (QAt.y Wt.none (Yd.fieldAddr (k := 7) kr_ rfl))) (all_c (QF.mk [7] [(112, _)] rfl rfl kr_ rfl (QAt.rd Wt.none (Rd.load1 kr_ rfl mem_ (by rfl)))) (all_c (QF.mk [] [] rfl rfl kr_ rfl (QAt.y Wt.none (Yd.fieldAddr (k := 6) kr_ rfl))) (all_c (QF.mk [5] [(110, _)] rfl rfl kr_ rfl (QAt.rd Wt.none (Rd.load1 kr_ rfl mem_ (by rfl)))) (all_c (QF.mk [] [] rfl rfl kr_ rfl (QAt.y Wt.none (Yd.fieldAddr (k := 5) kr_ rfl))) (all_c (QF.mk [2] [(107, _)] rfl rfl kr_ rfl (QAt.y Wt.none (Yd.fieldAddr (k := 5) kr_ rfl))) (all_c (QF.mk [1] [(106, _)] rfl rfl kr_ rfl (QAt.y Wt.none (Yd.notNil rfl))) (all_c (QF.mk [] [] rfl rfl kr_ rfl (QAt.y Wt.none (Yd.move rfl))) (all_c (QF.mk [] [] rfl rfl kr_ rfl (QAt.y Wt.none (Yd.move rfl))) (all_n))))))))))))) (all_c ?_ (all_n))
             ·change SO _ _ _ _ _ _ 16 ([(120, _), (115, _), (114, _), (113, _), (112, _), (111, _), (110, _), (108, _), (107, _), (106, _), (105, _)] ++ _) _ _
              refine SO.s rfl Wt.none (Hd.store1s kr_ rfl rfl (by rfl) fr_ (by rfl) (by first | (simp only [List.set_cons_zero, List.set_cons_succ, Nat.zero_add, Nat.add_zero, Nat.reduceAdd]; rfl) | rfl) ⟨rfl, ?_⟩)
              change WAF _ _ _ _ _ _ [(14, 119, _)] _ [16, 15, 10, 9, 8, 7, 6, 5, 3, 2, 1, 0, 13, 4, 12, 11] (([(120, _), (115, _), (114, _), (113, _), (112, _), (111, _), (110, _), (108, _), (107, _), (106, _), (105, _)] ++ _)) _
              refine WAF.done (pd := [(14, 119)]) rfl kr_ kr_ (all_c rfl (all_n)) (all_c (QF.mk [] [] rfl rfl kr_ rfl (QAt.y Wt.none (Yd.notNil rfl))) (all_n)) ?_
              change DN _ _ _ _ _ _ ([(119, _)] ++ _) _
              refine DN.block_normal ?_
              exact DN.reachS ((doV s n, doR s n, row p [.pointer (some ⟨pd, 0, none⟩), .pointer (some ⟨ps, 0, none⟩), .pointer (some ⟨pp, 0, none⟩), .int .u32 (doS s n).e.toNat, .slice lo (doS s n).ks.length lc, .slice eo2 ((doS s n).ef.length + 1) ec2, .slice no (doS s n).no.length nc] 116 :: (CS ++ (CP ++ (CD ++ (CF ++ (C2 ++ (CN ++ DO)))))), (ro, rc), AR)) (by have g := did_1 (s := s) (n := n) h93 h95; exact ⟨g.1.symm, g.2.1.symm, by rw [g.2.2, if_pos h104]; exact ⟨pd, ps, pp, _, _, _, _, _, _, _, _, _, _, _, rfl, hS, hP, hD, hF, by show Own _ ((doS s n).ef ++ [_]).length (((doS s n).ef ++ [_]).flatMap efc) _ 3 _; rw [List.length_append, List.flatMap_append]; exact h2, hN, hO⟩, hAR⟩) (Sx.put rfl (Sx.put rfl (sx_))) sp_
          ·refine WC.skip ?_
           refine DN.block_normal ?_
           exact DN.reachS ((doV s n, doR s n, C9, (ro, rc), AR)) (by have g := did_1 (s := s) (n := n) h93 h95; exact ⟨g.1.symm, g.2.1.symm, by rw [g.2.2, if_neg h104]; exact h9, hAR⟩) (Sx.put rfl (Sx.put rfl (sx_))) sp_
         ·refine WC.skip ?_
          refine DN.block_normal ?_
          exact DN.reachS ((2, [], row p [.pointer (some ⟨pd, 0, none⟩), .pointer (some ⟨ps, 0, none⟩), .pointer (some ⟨pp, 0, none⟩), .int .u32 s.e.toNat, .slice lo s.ks.length lc, .slice eo s.ef.length ec, .slice no s.no.length nc] 116 :: (CS ++ (CP ++ (CD ++ (CF ++ (CE ++ (CN ++ DO)))))), (none, 0), [])) (by have g := did_0 (s := s) (n := n) h93 h95; exact ⟨g.1.symm, g.2.1.symm, by rw [g.2.2]; exact ⟨pd, ps, pp, _, _, _, _, _, _, _, _, _, _, _, rfl, hS, hP, hD, hF, hE, hN, hO⟩, Ob.nil _⟩) (Sx.put rfl (Sx.put rfl (sx_))) sp_
       ·clear hS hP hD hF hE hN hO hec hnc
        rintro ⟨cd9, rp, C9, ⟨ro, rc⟩, AR⟩ ⟨hcd, hrp, h9, hAR⟩
        dsimp only at hcd hrp h9 hAR ⊢
        have hdf := did_fence (s := s) (n := n) (act := act)
        obtain ⟨d, hdd⟩ : ∃ d, d = didS s n act := ⟨_, rfl⟩
        rw [← hdd] at h9 hdf
        have hdl9 : d.ks.length = s.ks.length := by rw [hdf.2]
        obtain ⟨pd, ps, pp, vL, vE, vN, CS, CP, CD, CF, CE, cn, CN, DO, rfl, hS, hP, hD, hF, hE, hN, hO⟩ := h9
        obtain ⟨lo, lc, rfl⟩ := hF.form
        obtain ⟨eo, ec, rfl, hec⟩ := hE.form
        obtain ⟨no, nc, rfl, hnc⟩ := hN.form
        refine WC.seq ?_
        refine WC.draw 15 kr_ rfl ?_
        refine WA.float (N := 15) rfl ?_
        refine WAF.add (i := 0) (d := 122) rfl (QF.mk [] [] rfl rfl kr_ rfl (QAt.y Wt.none (Yd.move rfl))) ?_
        refine WAF.add (i := 1) (d := 123) rfl (QF.mk [] [] rfl rfl kr_ rfl (QAt.y Wt.none (Yd.move rfl))) ?_
        refine WAF.add (i := 2) (d := 124) rfl (QF.mk [1] [(123, _)] rfl rfl kr_ rfl (QAt.y Wt.none (Yd.notNil rfl))) ?_
        refine WAF.add (i := 3) (d := 125) rfl (QF.mk [2] [(124, _)] rfl rfl kr_ rfl (QAt.y Wt.none (Yd.fieldAddr (k := 3) kr_ rfl))) ?_
        refine WAF.add (i := 4) (d := 126) rfl (QF.mk [3] [(125, _)] rfl rfl kr_ rfl (QAt.rd Wt.none (Rd.loadA (n := 2) (vs := [_, _]) kr_ rfl mem_ (by rfl) (by rfl)))) ?_
        refine WAF.add (i := 5) (d := 127) rfl (QF.mk [] [] rfl rfl kr_ rfl (QAt.rd Wt.none (Rd.loadAll (n := 11) kr_ rfl mem_ (by rfl)))) ?_
        refine WAF.add (i := 6) (d := 128) rfl (QF.mk [] [] rfl rfl kr_ rfl (QAt.y Wt.none (Yd.move rfl))) ?_
        refine WAF.add (i := 7) (d := 129) rfl (QF.mk [] [] rfl rfl kr_ rfl (QAt.y Wt.none (Yd.move rfl))) ?_
        refine WAF.step (pd := [(7, 129), (6, 128), (5, 127), (4, 126), (3, 125), (2, 124), (1, 123), (0, 122)]) [(8, [7, 6, 5, 4])] rfl kr_ kr_ (all_c rfl (all_c rfl (all_c rfl (all_c rfl (all_c rfl (all_c rfl (all_c rfl (all_c rfl (all_n))))))))) (all_c (QF.mk [] [] rfl rfl kr_ rfl (QAt.y Wt.none (Yd.move rfl))) (all_c (QF.mk [] [] rfl rfl kr_ rfl (QAt.y Wt.none (Yd.move rfl))) (all_c (QF.mk [] [] rfl rfl kr_ rfl (QAt.rd Wt.none (Rd.loadAll (n := 11) kr_ rfl mem_ (by rfl)))) (all_c (QF.mk [3] [(125, _)] rfl rfl kr_ rfl (QAt.rd Wt.none (Rd.loadA (n := 2) (vs := [_, _]) kr_ rfl mem_ (by rfl) (by rfl)))) (all_c (QF.mk [2] [(124, _)] rfl rfl kr_ rfl (QAt.y Wt.none (Yd.fieldAddr (k := 3) kr_ rfl))) (all_c (QF.mk [1] [(123, _)] rfl rfl kr_ rfl (QAt.y Wt.none (Yd.notNil rfl))) (all_c (QF.mk [] [] rfl rfl kr_ rfl (QAt.y Wt.none (Yd.move rfl))) (all_c (QF.mk [] [] rfl rfl kr_ rfl (QAt.y Wt.none (Yd.move rfl))) (all_n))))))))) (all_c ?_ (all_n))
        ·change SO _ _ _ _ _ _ 8 ([(129, _), (128, _), (127, _), (126, _)] ++ _) _ _
         refine SO.c rfl Wt.none rfl (Ent.func Tryz.call59 rfl) (keep_tells d.e _ d.ks (CF ++ (AR ++ H)) (hF.kv.mono gr_) (by rw [hdf.2]; omega) n _ _ (hvk.mono gr_) (hvd.mono gr_) cd9 _ rp (hAR.bs.mono gr_)) (Sp.p sp_) ?_
         rintro x H9 ⟨wk, DK, rfl, hKF, rfl⟩
         obtain ⟨ko2, kc2, rfl⟩ := hKF.form
         change WAF _ _ _ _ _ _ [(3, 125, _), (2, 124, _), (1, 123, _), (0, 122, _)] _ [8, 7, 6, 5, 4] ((130, _) :: ([(129, _), (128, _), (127, _), (126, _)] ++ _)) _
         refine WAF.add (i := 9) (d := 121) rfl (QF.mk [] [] rfl rfl kr_ rfl (QAt.y Wt.none (Yd.move rfl))) ?_
         refine WAF.add (i := 10) (d := 131) rfl (QF.mk [9] [(121, _)] rfl rfl kr_ rfl (QAt.y Wt.none (Yd.extract rfl rfl))) ?_
         refine WAF.add (i := 11) (d := 132) rfl (QF.mk [9] [(121, _)] rfl rfl kr_ rfl (QAt.y Wt.none (Yd.extract rfl rfl))) ?_
         refine WAF.add (i := 12) (d := 133) rfl (QF.mk [10, 9, 3, 2, 1, 0] [(131, _), (121, _), (125, _), (124, _), (123, _), (122, _)] rfl rfl kr_ rfl (QAt.y Wt.none (Yd.notNil rfl))) ?_
         refine WAF.add (i := 13) (d := 134) rfl (QF.mk [12, 10, 9, 3, 2, 1, 0] [(133, _), (131, _), (121, _), (125, _), (124, _), (123, _), (122, _)] rfl rfl kr_ rfl (QAt.y Wt.none (Yd.fieldAddr (k := 3) kr_ rfl))) ?_
         refine WAF.step (pd := [(13, 134), (12, 133), (11, 132), (10, 131), (9, 121), (3, 125), (2, 124), (1, 123), (0, 122)]) [(14, [13, 10, 9, 3, 2, 1, 0])] rfl kr_ kr_ (all_c rfl (all_c rfl (all_c rfl (all_c rfl (all_c rfl (all_c rfl (all_c rfl (all_c rfl (all_c rfl (all_n)))))))))) (all_c (QF.mk [12, 10, 9, 3, 2, 1, 0] [(133, _), (131, _), (121, _), (125, _), (124, _), (123, _), (122, _)] rfl rfl kr_ rfl (QAt.y Wt.none (Yd.fieldAddr (k := 3) kr_ rfl))) (all_c (QF.mk [10, 9, 3, 2, 1, 0] [(131, _), (121, _), (125, _), (124, _), (123, _), (122, _)] rfl rfl kr_ rfl (QAt.y Wt.none (Yd.notNil rfl))) (all_c (QF.mk [9] [(121, _)] rfl rfl kr_ rfl (QAt.y Wt.none (Yd.extract rfl rfl))) (all_c (QF.mk [9] [(121, _)] rfl rfl kr_ rfl (QAt.y Wt.none (Yd.extract rfl rfl))) (all_c (QF.mk [] [] rfl rfl kr_ rfl (QAt.y Wt.none (Yd.move rfl))) (all_c (QF.mk [2] [(124, _)] rfl rfl kr_ rfl (QAt.y Wt.none (Yd.fieldAddr (k := 3) kr_ rfl))) (all_c (QF.mk [1] [(123, _)] rfl rfl kr_ rfl (QAt.y Wt.none (Yd.notNil rfl))) (all_c (QF.mk [] [] rfl rfl kr_ rfl (QAt.y Wt.none (Yd.move rfl))) (all_c (QF.mk [] [] rfl rfl kr_ rfl (QAt.y Wt.none (Yd.move rfl))) (all_n)))))))))) (all_c ?_ (all_n))
         ·change SO _ _ _ _ _ _ 14 ([(134, _), (131, _), (121, _), (125, _), (124, _), (123, _), (122, _)] ++ _) _ _
          refine SO.s rfl Wt.none (Hd.storeP (n := 2) kr_ rfl rfl (by rfl) one_ fr_ (by show 0 + 3 + 2 ≤ 7; decide) (by rfl) ⟨rfl, ?_⟩)
          change WAF _ _ _ _ _ _ [(12, 133, _), (11, 132, _)] _ [14, 13, 10, 9, 3, 2, 1, 0, 8, 7, 6, 5, 4] (([(134, _), (131, _), (121, _), (125, _), (124, _), (123, _), (122, _)] ++ _)) _
          refine WAF.done (pd := [(12, 133), (11, 132)]) rfl kr_ kr_ (all_c rfl (all_c rfl (all_n))) (all_c (QF.mk [] [] rfl rfl kr_ rfl (QAt.y Wt.none (Yd.notNil rfl))) (all_c (QF.mk [] [] rfl rfl kr_ rfl (QAt.y Wt.none (Yd.extract rfl rfl))) (all_n))) ?_
          change DN _ _ _ _ _ _ ([(133, _), (132, _)] ++ _) _
          refine ts_ ?_
          refine WC.region ?_
          refine WL.h rfl (Hd.loadAll (n := 11) kr_ rfl mem_ (by rfl) ⟨_, rfl, ?_⟩)
          refine m_ rfl rfl ?_
          refine m_ rfl rfl ?_
          refine WL.c rfl (Ent.func Tryz.call57 rfl) (done_tells n _ _ ⟨_, _, rfl⟩ ⟨_, _, rfl⟩ cd9 _ rp AR hAR.bs (by rw [hrp]; have := reply_len (s := s) (n := n) (act := act); omega)) (Sp.p sp_) ?_
          rintro x H9 ⟨wd, AD, rfl, hAD, rfl⟩
          obtain ⟨od, cd, rfl, _⟩ := hAD.form
          refine WL.s (Hd.storeAll (n := 11) kr_ rfl rfl (by rfl) one_ fr_ (by rfl) ⟨rfl, ?_⟩)
          refine nt_ ?_
          refine WC.ret ?_
          refine DN.retCS (s := 11) ((row p [.pointer (some ⟨pd, 0, none⟩), .pointer (some ⟨ps, 0, none⟩), .pointer (some ⟨pp, 0, none⟩), .int .u32 (keepK d.e d.ks n cd9 rp).1.toNat, .slice ko2 (keepK d.e d.ks n cd9 rp).2.1.length kc2, .slice eo d.ef.length ec, .slice no d.no.length nc] 116 :: (CS ++ (CP ++ (CD ++ (DK ++ (CE ++ (CN ++ DO))))))) ++ (AD ++ H)) Tryz.results22 kr_ rfl mem_ (by rfl) sp_ ?_
          have g := serve_new (s := s) (n := n) (by rw [hq3]; exact h47) (by rw [hq1]; exact h56) (by omega)
          rw [hq1, ← hdd, ← hcd, ← hrp] at g
          rw [g.1, g.2]
          exact ⟨_, _, AD, rfl, ⟨pd, ps, pp, _, _, _, CS, CP, CD, DK, CE, cn, CN, DO, rfl, hS, hP, hD, hKF, hE, hN, hO⟩, hAD, rfl⟩
end Go.Proofs.YtkamlondepceiaaGreat

set_option linter.unusedVariables false
set_option linter.unusedSimpArgs false
set_option maxHeartbeats 4000000
namespace Go.Proofs
def Tryz.sortG_ren : Go.Shelf.Ren := ⟨fun | 6 => 97 | 15 => 131 | 14 => 130 | 28 => 150 | 29 => 151 | 20 => 142 | 21 => 143 | 22 => 144 | 23 => 145 | 24 => 146 | 25 => 147 | 26 => 148 | 27 => 149 | 46 => 162 | 47 => 163 | 48 => 164 | 49 => 165 | 50 => 166 | 57 => 170 | n => n, fun | 22 => 43 | 24 => 73 | 25 => 194 | 3 => 3 | 39 => 218 | 0 => 0 | 53 => 49 | 55 => 50 | 4 => 4 | 46 => 240 | 45 => 239 | 50 => 179 | 5 => 5 | 9 => 9 | 66 => 252 | 70 => 255 | 76 => 259 | 77 => 176 | n => n, fun | n => n⟩
theorem Tryz.sortG : SlLaysF0.n6 Tryz.prog Tryz.sortG_ren := {
  mixed := by kernel_rfl,
  f6 := ⟨Tryz.f97.name, by decide, Tryz.func97.trans (congrArg some (by kernel_rfl))⟩,
  f14 := ⟨Tryz.f130.name, by decide, Tryz.func130.trans (congrArg some (by kernel_rfl))⟩,
  f15 := Tryz.func131.trans (congrArg some (by kernel_rfl)),
  f20 := ⟨Tryz.f142.name, by decide, Tryz.func142.trans (congrArg some (by kernel_rfl))⟩,
  f21 := ⟨Tryz.f143.name, by decide, Tryz.func143.trans (congrArg some (by kernel_rfl))⟩,
  f22 := ⟨Tryz.f144.name, by decide, Tryz.func144.trans (congrArg some (by kernel_rfl))⟩,
  f23 := ⟨Tryz.f145.name, by decide, Tryz.func145.trans (congrArg some (by kernel_rfl))⟩,
  f24 := ⟨Tryz.f146.name, by decide, Tryz.func146.trans (congrArg some (by kernel_rfl))⟩,
  f25 := ⟨Tryz.f147.name, by decide, Tryz.func147.trans (congrArg some (by kernel_rfl))⟩,
  f26 := ⟨Tryz.f148.name, by decide, Tryz.func148.trans (congrArg some (by kernel_rfl))⟩,
  f27 := ⟨Tryz.f149.name, by decide, Tryz.func149.trans (congrArg some (by kernel_rfl))⟩,
  f28 := Tryz.func150.trans (congrArg some (by kernel_rfl)),
  f29 := Tryz.func151.trans (congrArg some (by kernel_rfl)),
  f46 := ⟨Tryz.f162.name, by decide, Tryz.func162.trans (congrArg some (by kernel_rfl))⟩,
  f47 := Tryz.func163.trans (congrArg some (by kernel_rfl)),
  f48 := Tryz.func164.trans (congrArg some (by kernel_rfl)),
  f49 := ⟨Tryz.f165.name, by decide, Tryz.func165.trans (congrArg some (by kernel_rfl))⟩,
  f50 := ⟨Tryz.f166.name, by decide, Tryz.func166.trans (congrArg some (by kernel_rfl))⟩,
  f57 := ⟨Tryz.f170.name, by decide, Tryz.func170.trans (congrArg some (by kernel_rfl))⟩,
  t0 := Tryz.underlying0,
  a0 := Tryz.isAgg0,
  z0 := Tryz.sizeOf0,
  v0 := Tryz.zeroValue0,
  t3 := Tryz.underlying3,
  a3 := Tryz.isAgg3,
  z3 := Tryz.sizeOf3,
  v3 := Tryz.zeroValue3,
  t4 := Tryz.underlying4,
  a4 := Tryz.isAgg4,
  z4 := Tryz.sizeOf4,
  v4 := Tryz.zeroValue4,
  t5 := Tryz.underlying5,
  a5 := Tryz.isAgg5,
  z5 := Tryz.sizeOf5,
  v5 := Tryz.zeroValue5,
  t9 := Tryz.underlying9,
  a9 := Tryz.isAgg9,
  z9 := Tryz.sizeOf9,
  v9 := Tryz.zeroValue9,
  t22 := Tryz.underlying43,
  a22 := Tryz.isAgg43,
  z22 := Tryz.sizeOf43,
  v22 := Tryz.zeroValue43,
  t25 := Tryz.underlying194,
  a25 := Tryz.isAgg194,
  z25 := Tryz.sizeOf194,
  v25 := Tryz.zeroValue194,
  t39 := Tryz.underlying218,
  a39 := Tryz.isAgg218,
  z39 := Tryz.sizeOf218,
  v39 := Tryz.zeroValue218,
  t45 := Tryz.underlying239,
  a45 := Tryz.isAgg239,
  z45 := Tryz.sizeOf239,
  v45 := Tryz.zeroValue239,
  t46 := Tryz.underlying240,
  a46 := Tryz.isAgg240,
  z46 := Tryz.sizeOf240,
  v46 := Tryz.zeroValue240,
  t50 := Tryz.underlying179,
  a50 := Tryz.isAgg179,
  z50 := Tryz.sizeOf179,
  v50 := Tryz.zeroValue179,
  t53 := Tryz.underlying49,
  a53 := Tryz.isAgg49,
  z53 := Tryz.sizeOf49,
  v53 := Tryz.zeroValue49,
  t55 := Tryz.underlying50,
  a55 := Tryz.isAgg50,
  z55 := Tryz.sizeOf50,
  v55 := Tryz.zeroValue50,
  t66 := Tryz.underlying252,
  a66 := Tryz.isAgg252,
  z66 := Tryz.sizeOf252,
  v66 := Tryz.zeroValue252,
  t70 := Tryz.underlying255,
  a70 := Tryz.isAgg255,
  z70 := Tryz.sizeOf255,
  v70 := Tryz.zeroValue255,
  t76 := Tryz.underlying259,
  a76 := Tryz.isAgg259,
  z76 := Tryz.sizeOf259,
  v76 := Tryz.zeroValue259,
  t77 := Tryz.underlying176,
  a77 := Tryz.isAgg176,
  z77 := Tryz.sizeOf176,
  v77 := Tryz.zeroValue176
}
def Tryz.cmp_ren : Go.Shelf.Ren := ⟨fun | 106 => 99 | 213 => 132 | 265 => 152 | n => n, fun | 3 => 3 | 9 => 9 | n => n, fun | n => n⟩
theorem Tryz.cmpStr : Lays.n106 Tryz.prog Tryz.cmp_ren := {
  mixed := by kernel_rfl,
  f106 := Tryz.func99.trans (congrArg some (by kernel_rfl)),
  f213 := Tryz.func132.trans (congrArg some (by kernel_rfl)),
  f265 := Tryz.func152.trans (congrArg some (by kernel_rfl)),
  t3 := Tryz.underlying3, a3 := Tryz.isAgg3, z3 := Tryz.sizeOf3, v3 := Tryz.zeroValue3,
  t9 := Tryz.underlying9, a9 := Tryz.isAgg9, z9 := Tryz.sizeOf9, v9 := Tryz.zeroValue9 }
end Go.Proofs
namespace Go.Proofs.YtkamlondepceiaaGreat.St
open Go.SL
theorem compare_reads (a b : ByteArray) (H : List Ck) : Reads Tryz.prog 99 [.string a, .string b] H (.int .i64 (cmpS a b)) := fun w R s =>
  (Any.strings_Compare (ρ := Tryz.cmp_ren) Tryz.cmpStr a b w).mono fun e w' ⟨he, hw⟩ => ⟨_, H, he, ⟨rfl, rfl⟩, by rw [hw]; exact s, by rw [hw]; exact Kept.refl w⟩
theorem cmpG_tells (x y : Gd) : Tells Tryz.prog 98 [.agg (cellsG x).toArray, .agg (cellsG y).toArray] [] fun r H' => r = .int .i64 (cfG x y) := by
 refine Tells.enter Tryz.func98 rfl Tryz.ntmps98 rfl ?_
 intro w0 R
 refine sr_ ?_
 refine WL.h rfl (Hd.boxA rfl fun b2 => ⟨_, rfl, ?_⟩)
 refine WL.h rfl (Hd.boxA rfl fun b3 => ⟨_, rfl, ?_⟩)
 refine a_ rfl rfl ?_
 refine ntsr_ ?_
 refine f_ 0 kr_ rfl rfl ?_
 refine d_ kr_ rfl mem_ (by rfl) rfl ?_
 refine f_ 0 kr_ rfl rfl ?_
 refine d_ kr_ rfl mem_ (by rfl) rfl ?_
 refine WL.rf rfl (Ent.func Tryz.call99 rfl) (compare_reads x.name y.name []) sp_ ?_
 refine a_ rfl rfl ?_
 refine nt_ ?_
 refine WC.ret ?_
 refine DN.ret1 Tryz.results98 rfl ?_
 rfl
theorem goods_tells (p : Nat) (K : List Gd) (L : List Ho) (C : List Ck) (h : StAt 189 p K L C) (hl : K.length ≤ 100000000) : Tells Tryz.prog 60 [.pointer (some ⟨p, 0, none⟩)] C fun r C' => ∃ S Cs, ToldK Gd.name sLt K S ∧ Own r S.length (S.flatMap cellsG) 73 2 Cs ∧ C' = Cs ++ C := by
 refine Tells.enter Tryz.func60 rfl Tryz.ntmps60 rfl ?_
 intro w0 R
 obtain ⟨b1, b2, C1, C2, rfl, hK, hL⟩ := h
 obtain ⟨es, clock, rfl, hes, hborn, hbn⟩ := hK
 have hsz := hes.size
 simp only [kvs, List.length_map] at hsz
 refine sr_ ?_
 refine a_ rfl rfl ?_
 refine nt_ ?_
 refine WC.seq ?_
 refine sr_ ?_
 refine m_ rfl rfl ?_
 refine WL.y rfl (Yd.eqlNil Tryz.underlying113 rfl rfl) ?_
 refine nt_ ?_
 refine WC.no rfl ?_
 refine WC.skip ?_
 refine ts_ ?_
 refine WC.region ?_
 refine a_ rfl rfl ?_
 refine nt_ ?_
 refine WC.seq ?_
 refine sr_ ?_
 refine m_ rfl rfl ?_
 refine n_ rfl rfl ?_
 refine f_ 0 kr_ rfl rfl ?_
 refine d_ kr_ rfl mem_ (by rfl) rfl ?_
 refine WL.h rfl (Hd.rangeM (KT := 9) (ET := 191) kr_ rfl mem_ fun i => ⟨_, rfl, ?_⟩)
 refine nt_ ?_
 refine WC.block ?_
 refine WC.loopS (fun z : List MapEntry × List Gd × (Array Nat) × Value × List Ck => Seen es z.1 z.2.2.1 ∧ z.1.map (fun e : MapEntry => (e.key, e.val)) = z.2.1.map (fun r : Gd => (kStr.kv (Gd.name r), encG r)) ∧ Own z.2.2.2.1 z.2.1.length (z.2.1.flatMap cellsG) 73 2 z.2.2.2.2) (fun z : List MapEntry × List Gd × (Array Nat) × Value × List Ck => [(3, z.2.2.2.1)]) (fun z : List MapEntry × List Gd × (Array Nat) × Value × List Ck => ⟨i, .mapIter (some b1) clock z.2.2.1 clock, true⟩ :: (z.2.2.2.2 ++ (row p [.map (some b1), .map (some b2)] 189 :: ([⟨b1, .map es clock, true⟩] ++ C2)))) (fun z : List MapEntry × List Gd × (Array Nat) × Value × List Ck => es.size - z.1.length) (⟨[], [], #[], .slice none 0 0, []⟩) (show Seen es [] #[] ∧ [].map (fun e : MapEntry => (e.key, e.val)) = [].map (fun r : Gd => (kStr.kv (Gd.name r), encG r)) ∧ Own (.slice none 0 0) [].length ([].flatMap cellsG) 73 2 [] from ⟨Seen.start es, rfl, Own.nil _ _⟩) (Sx.put rfl (sx_)) sp_ ?_
 rintro ⟨col, B, seen, v, Cs⟩ hI
 replace hI : Seen es col seen ∧ col.map (fun e : MapEntry => (e.key, e.val)) = B.map (fun r : Gd => (kStr.kv (Gd.name r), encG r)) ∧ Own v B.length (B.flatMap cellsG) 73 2 Cs := hI
 obtain ⟨hs, hB, ho⟩ := hI
 change WC _ _ _ _ _ _ ([(3, v)] ++ _) (⟨i, .mapIter (some b1) clock seen clock, true⟩ :: (Cs ++ (row p [.map (some b1), .map (some b2)] 189 :: ([⟨b1, .map es clock, true⟩] ++ C2))))
 have hcl := hs.len hbn
 obtain ⟨vo, vc, rfl, _⟩ := ho.form
 have hBl : B.length = col.length := by simpa using (congrArg List.length hB).symm
 refine sr_ ?_
 refine WL.h rfl (Hd.nextM rfl fr_ mem_ hborn (fun e he => ⟨_, rfl, ?_⟩) (fun hu => ⟨_, rfl, ?_⟩))
 ·obtain ⟨hs2, hee⟩ := hs.next he
  obtain ⟨b, hbL, hek, hev⟩ := entsK_one hes hee
  refine x_ rfl rfl rfl ?_
  refine nt_ ?_
  refine WC.seq ?_
  refine WC.yes rfl ?_
  refine WC.skip ?_
  refine DN.then_normal ?_
  refine WC.block ?_
  refine sr_ ?_
  refine WL.h rfl (Hd.entryM rfl List.mem_cons_self mem_ hbn hee ⟨_, rfl, ?_⟩)
  refine x_ rfl rfl rfl ?_
  refine WL.renamed (t := 16) (v := .string b.name) rfl (by show e.key = _; rw [hek]; rfl) ?_
  refine x_ rfl rfl rfl ?_
  refine WL.renamed (t := 17) (v := .agg #[.int .i64 b.free, .int .i64 b.gone]) rfl (by show e.val = _; rw [hev]; rfl) ?_
  refine WL.h rfl (Hd.alloc (zs := [.int .i64 0, .int .i64 0]) kr_ fun b5 => ⟨_, rfl, ?_⟩)
  refine a_ rfl rfl ?_
  refine WL.s (Hd.storeAll (n := 2) kr_ rfl rfl (by rfl) one_ fr_ (by rfl) ⟨rfl, ?_⟩)
  refine ntr_ ?_
  refine m_ rfl rfl ?_
  refine m_ rfl rfl ?_
  refine f_ 0 kr_ rfl rfl ?_
  refine d_ kr_ rfl mem_ (by rfl) rfl ?_
  refine WL.y rfl (Yd.buildL (pl := [(0, 1), (1, 1)]) (zs := [.string ⟨#[]⟩, .int .i64 0]) (parts := [(0, .tmp 19), (1, .tmp 21)]) (vs := [(0, _), (1, _)]) (cells := [_, _]) kr_ kr_ rfl rfl) ?_
  refine WL.h rfl (Hd.buildA (e := 73) (sz := 2) (zs := [.string ⟨#[]⟩, .int .i64 0]) kr_ kr_ kr_ rfl rfl (by rfl) kr_ fun b23 => ⟨_, rfl, ?_⟩)
  refine WL.h rfl (Hd.appendRow (e := 73) (sz := 2) (bytes := 24) (zs := [.string ⟨#[]⟩, .int .i64 0]) kr_ kr_ rfl (by omega) rfl rfl (ho) sp_ mem_ (by rfl) one_ (by simp only [maxLen]; omega) (by omega) fun v2 Ca ho2 => ⟨_, rfl, ?_⟩)
  refine a_ rfl rfl ?_
  refine WL.nil ?_
  refine DN.block_normal ?_
  have hcl2 := hs2.len hbn
  have hcl3 : (col ++ [e]).length = col.length + 1 := by simp
  exact DN.againS (⟨col ++ [e], B ++ [b], seen.push e.born, v2, Ca⟩) (show Seen es (col ++ [e]) (seen.push e.born) ∧ (col ++ [e]).map (fun e : MapEntry => (e.key, e.val)) = (B ++ [b]).map (fun r : Gd => (kStr.kv (Gd.name r), encG r)) ∧ Own v2 (B ++ [b]).length ((B ++ [b]).flatMap cellsG) 73 2 Ca from ⟨hs2, by rw [List.map_append, List.map_append, hB]; simp [hek, hev], by rw [List.flatMap_append, List.length_append]; simpa [cellsG, cellsH] using ho2⟩) (show es.size - (col ++ [e]).length < es.size - col.length by omega) (Sx.put rfl (sx_)) sp_
 ·refine x_ rfl rfl rfl ?_
  refine nt_ ?_
  refine WC.seq ?_
  refine WC.no rfl ?_
  refine WC.exit ?_
  refine DN.then_exit ?_
  refine DN.then_exit ?_
  refine DN.block_exit ?_
  refine ts_ ?_
  refine WC.region ?_
  refine m_ rfl rfl ?_
  refine WL.c rfl (Ent.func Tryz.call97 rfl) (sort_tells Tryz.sortG 2 (by omega) Tryz.isAgg73 Tryz.sizeOf73 cellsG cellsG_len cellsG_one cfG swoG 98 Tryz.call98 cmpG_tells ho (by omega)) (Sp.p sp_) ?_
  rintro q Cz ⟨rfl, S, hS, hpw, ho2⟩
  refine ntsr_ ?_
  refine m_ rfl rfl ?_
  refine a_ rfl rfl ?_
  refine nt_ ?_
  refine WC.ret ?_
  refine DN.fit (C := Cz ++ (row p [.map (some b1), .map (some b2)] 189 :: ([⟨b1, .map es clock, true⟩] ++ C2))) sp_ ?_
  refine DN.ret1 Tryz.results60 rfl ?_
  exact ⟨S, Cz, ⟨hS.trans (entsK_all injG hes (hs.all hbn hu) hB), hpw.imp fun {x y} hxy => by rw [← hxy]; exact (ltG y x).symm⟩, by rw [hS.length_eq]; rwa [hS.length_eq] at ho2, rfl⟩
end Go.Proofs.YtkamlondepceiaaGreat.St
