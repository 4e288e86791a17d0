/- BoundKeeps (chapter 23): every call keeps to its bound; part 3 of the proof: words, walks by an engine, and plain lemmas, each used by the theorem. -/
import Derived.Carry
import Derived.Deep.RegionLaw
import Derived.Lib.AppendZerosOnto
import Derived.Lib.Overlaps
import Derived.Maps.OwnOps
import Derived.Maps.OwnSet
import Derived.Maps.Views
import Derived.WideKeyArgs2
import Derived.Test.YtbhakljebcmocaaK2
set_option linter.unusedVariables false
set_option linter.unusedSimpArgs false
section
namespace Go.Proofs.Ytbhakljebcmocaa.PBoundKeeps
open Go.RowKit Go.Proofs.YtbhakljebcmocaaW.PrintWords Go.Proofs.YtbhakljebcmocaaW.PrintLast Go.Proofs.YtbhakljebcmocaaW.PrintMore
set_option linter.unusedVariables false
set_option maxHeartbeats 1000000
set_option maxRecDepth 100000
set_option linter.unusedSimpArgs false
def k10_arrive.T1 : Bool × List (List Nat × List Nat) := (true, [([], []), ([0], [0]), ([1], [1]), ([2], [2]), ([3], [3]), ([4, 3], [3, 4]), ([3], [3]), ([6, 3], [3, 6]), ([5, 7, 3, 3], [3, 5, 7]), ([3], [3]), ([9, 3], [3, 9]), ([8, 10, 3], [3, 8, 10]), ([3, 11], [3, 11])])
def m10Arrive (w : RW) (x : WalkR) : WalkR := (bif (x.curr == 0) then ⟨x.key, x.mode, x.phase, x.pred, x.curr, x.next, x.seen, x.found, x.stop, true⟩ else (bif (decide ((keyF w.b x.curr) > x.key)) then ⟨x.key, x.mode, x.phase, x.pred, x.curr, x.next, x.seen, x.found, x.stop, true⟩ else ⟨x.key, x.mode, 1, x.pred, x.curr, x.next, x.seen, x.found, x.stop, x.done⟩))
theorem k10_arrive (w : RW) (rw : RX) (x : WalkR) (W : World) (hW : WAt W w rw) : Calls Try.prog 96 #[.agg (encW w rw).toArray, .agg (encWalk x).toArray] W (fun e W' => e = .returned (.agg (encWalk (m10Arrive w x)).toArray) ∧ Below W.heap.size W W') := by
 refine rf_enter (args := [.agg (encW w rw).toArray, .agg (encWalk x).toArray]) [wRep w rw] Try.func96 rfl (by intro r hr; obtain rfl := List.mem_singleton.mp hr; exact hW) ?_
 refine rX 8 ?_
 refine qD k10_arrive.T1 [0, 1, 3, 7, 15, 31, 15, 79, 255, 15, 527, 2047, 4095] [] [1, 0] [] ?_
 refine rO [0, 1, 2, 3] ?_
 refine rZ 4 ?_
 refine qS 8 (x.curr == 0) (fun h1 => ?_) (fun h1 => ?_)
 ·refine rO [4, 5, 6, 7, 8, 9, 10, 11, 12] ?_
  refine rZ 20 ?_
  obtain ⟨m_, hq_, hm_⟩ := nm (m10Arrive w x)
  unfold m10Arrive at hm_
  simp only [bT h1] at hm_
  refine qR [.agg (encWalk m_).toArray] (fun W1_ hT_ hR_ hF_ => ?_) (h := by rewrite [← hm_]; kernel_rfl)
  rw [hq_, ← hm_]
  exact ⟨rfl, hT_.below⟩
 ·refine rO [4, 5, 6, 7, 9, 10, 8, 11, 12] ?_
  refine rZ 7 ?_
  refine qV [.agg (encB w.b rw.r).toArray, .int .i64 x.curr] (fun W_ hT_ hR_ => c07_Key w.b rw.r x.curr _ (wget hR_ 0 rfl).b) ?_
  refine rZ 3 ?_
  refine qI (decide ((keyF w.b x.curr) > x.key)) (fun h2 => ?_) (fun h2 => ?_)
  ·refine rZ 9 ?_
   obtain ⟨m_, hq_, hm_⟩ := nm (m10Arrive w x)
   unfold m10Arrive at hm_
   simp only [bF h1, bT h2] at hm_
   refine qR [.agg (encWalk m_).toArray] (fun W1_ hT_ hR_ hF_ => ?_) (h := by rewrite [← hm_]; kernel_rfl)
   rw [hq_, ← hm_]
   exact ⟨rfl, hT_.below⟩
  ·refine rZ 9 ?_
   obtain ⟨m_, hq_, hm_⟩ := nm (m10Arrive w x)
   unfold m10Arrive at hm_
   simp only [bF h1, bF h2] at hm_
   refine qR [.agg (encWalk m_).toArray] (fun W1_ hT_ hR_ hF_ => ?_) (h := by rewrite [← hm_]; kernel_rfl)
   rw [hq_, ← hm_]
   exact ⟨rfl, hT_.below⟩
def m10Advance (w : RW) (x : WalkR) : WalkR := (m10Arrive w ⟨x.key, x.mode, x.phase, x.curr, (pIndex x.next), x.next, x.seen, x.found, x.stop, x.done⟩)
theorem k10_advance (w : RW) (rw : RX) (x : WalkR) (W : World) (hW : WAt W w rw) : Calls Try.prog 103 #[.agg (encW w rw).toArray, .agg (encWalk x).toArray] W (fun e W' => e = .returned (.agg (encWalk (m10Advance w x)).toArray) ∧ Below W.heap.size W W') := by
 refine rf_enter (args := [.agg (encW w rw).toArray, .agg (encWalk x).toArray]) [wRep w rw] Try.func103 rfl (by intro r hr; obtain rfl := List.mem_singleton.mp hr; exact hW) ?_
 refine rX 17 ?_
 refine qV [.int .u64 x.next] (fun W_ hT_ hR_ => c01_Index x.next _) ?_
 refine rZ 7 ?_
 refine qV [.agg (encW w rw).toArray, .agg (encWalk ⟨x.key, x.mode, x.phase, x.curr, (pIndex x.next), x.next, x.seen, x.found, x.stop, x.done⟩).toArray] (fun W_ hT_ hR_ => k10_arrive _ _ ⟨x.key, x.mode, x.phase, x.curr, (pIndex x.next), x.next, x.seen, x.found, x.stop, x.done⟩ _ (wget hR_ 0 rfl)) ?_
 refine rZ 2 ?_
 obtain ⟨m_, hq_, hm_⟩ := nm (m10Advance w x)
 unfold m10Advance at hm_
 refine qR [.agg (encWalk m_).toArray] (fun W1_ hT_ hR_ hF_ => ?_) (h := by rewrite [← hm_]; kernel_rfl)
 rw [hq_, ← hm_]
 exact ⟨rfl, hT_.below⟩
def k10_judge.T5 : Bool × List (List Nat × List Nat) := (true, [([], []), ([0], [0]), ([], []), ([2], [2]), ([1, 3], [1, 3]), ([], []), ([5], [5]), ([4, 6], [4, 6])])
def m10Judge (w : RW) (x : WalkR) (s : Int) : WalkR := (bif (pOver s) then ⟨x.key, x.mode, 4, x.pred, x.curr, x.next, x.seen, x.found, x.stop, x.done⟩ else (bif ((keyF w.b x.curr) != x.key) then (m10Advance w x) else (bif (x.mode == 2) then (bif (s == 1) then ⟨x.key, x.mode, x.phase, x.pred, x.curr, x.next, x.seen, (carF w.b x.curr), true, true⟩ else ⟨x.key, x.mode, x.phase, x.pred, x.curr, x.next, x.seen, x.found, true, true⟩) else (bif (x.mode != 1) then (m10Advance w x) else (bif (s == 1) then (bif (x.seen == (carF w.b x.curr)) then ⟨x.key, x.mode, 4, x.pred, x.curr, x.next, x.seen, x.found, x.stop, x.done⟩ else (m10Advance w ⟨x.key, x.mode, x.phase, x.pred, x.curr, x.next, (carF w.b x.curr), x.found, x.stop, x.done⟩)) else (bif (x.seen != (-1)) then ⟨x.key, x.mode, 5, x.pred, x.curr, x.next, x.seen, x.found, x.stop, x.done⟩ else ⟨x.key, x.mode, 6, x.pred, x.curr, x.next, x.seen, x.found, x.stop, x.done⟩))))))
theorem k10_judge (w : RW) (rw : RX) (x : WalkR) (s : Int) (W : World) (hW : WAt W w rw) : Calls Try.prog 98 #[.agg (encW w rw).toArray, .agg (encWalk x).toArray, .int .u64 s] W (fun e W' => e = .returned (.agg (encWalk (m10Judge w x s)).toArray) ∧ Below W.heap.size W W') := by
 refine rf_enter (args := [.agg (encW w rw).toArray, .agg (encWalk x).toArray, .int .u64 s]) [wRep w rw] Try.func98 rfl (by intro r hr; obtain rfl := List.mem_singleton.mp hr; exact hW) ?_
 refine rX 12 ?_
 refine qV [.agg (encB w.b rw.r).toArray, .int .i64 x.curr] (fun W_ hT_ hR_ => c07_Carried w.b rw.r x.curr _ (wget hR_ 0 rfl).b) ?_
 refine rZ 6 ?_
 refine qV [.int .u64 s] (fun W_ hT_ hR_ => c02_Over s _) ?_
 refine rZ 1 ?_
 refine qI (pOver s) (fun h1 => ?_) (fun h1 => ?_)
 ·refine rZ 10 ?_
  obtain ⟨m_, hq_, hm_⟩ := nm (m10Judge w x s)
  unfold m10Judge at hm_
  simp only [bT h1] at hm_
  refine qR [.agg (encWalk m_).toArray] (fun W1_ hT_ hR_ hF_ => ?_) (h := by rewrite [← hm_]; kernel_rfl)
  rw [hq_, ← hm_]
  exact ⟨rfl, hT_.below⟩
 ·refine rZ 3 ?_
  refine qD k10_judge.T5 [0, 1, 0, 4, 15, 0, 32, 127] [] [0, 1] [] ?_
  refine rO [0, 1, 2, 3, 5, 6, 4, 7] ?_
  refine rZ 7 ?_
  refine qV [.agg (encB w.b rw.r).toArray, .int .i64 x.curr] (fun W_ hT_ hR_ => c07_Key w.b rw.r x.curr _ (wget hR_ 0 rfl).b) ?_
  refine rZ 2 ?_
  refine qI ((keyF w.b x.curr) != x.key) (fun h2 => ?_) (fun h2 => ?_)
  ·refine rZ 4 ?_
   refine qV [.agg (encW w rw).toArray, .agg (encWalk x).toArray] (fun W_ hT_ hR_ => k10_advance _ _ _ _ (wget hR_ 0 rfl)) ?_
   refine rZ 2 ?_
   obtain ⟨m_, hq_, hm_⟩ := nm (m10Judge w x s)
   unfold m10Judge at hm_
   simp only [bF h1, bT h2] at hm_
   refine qR [.agg (encWalk m_).toArray] (fun W1_ hT_ hR_ hF_ => ?_) (h := by rewrite [← hm_]; kernel_rfl)
   rw [hq_, ← hm_]
   exact ⟨rfl, hT_.below⟩
  ·refine rZ 8 ?_
   refine qI (x.mode == 2) (fun h3 => ?_) (fun h3 => ?_)
   ·refine rZ 16 ?_
    refine qI (s == 1) (fun h4 => ?_) (fun h4 => ?_)
    ·refine rZ 10 ?_
     obtain ⟨m_, hq_, hm_⟩ := nm (m10Judge w x s)
     unfold m10Judge at hm_
     simp only [bF h1, bF h2, bT h3, bT h4] at hm_
     refine qR [.agg (encWalk m_).toArray] (fun W1_ hT_ hR_ hF_ => ?_) (h := by rewrite [← hm_]; kernel_rfl)
     rw [hq_, ← hm_]
     exact ⟨rfl, hT_.below⟩
    ·refine rZ 6 ?_
     obtain ⟨m_, hq_, hm_⟩ := nm (m10Judge w x s)
     unfold m10Judge at hm_
     simp only [bF h1, bF h2, bT h3, bF h4] at hm_
     refine qR [.agg (encWalk m_).toArray] (fun W1_ hT_ hR_ hF_ => ?_) (h := by rewrite [← hm_]; kernel_rfl)
     rw [hq_, ← hm_]
     exact ⟨rfl, hT_.below⟩
   ·refine rZ 8 ?_
    refine qI (x.mode != 1) (fun h5 => ?_) (fun h5 => ?_)
    ·refine rZ 4 ?_
     refine qV [.agg (encW w rw).toArray, .agg (encWalk x).toArray] (fun W_ hT_ hR_ => k10_advance _ _ _ _ (wget hR_ 0 rfl)) ?_
     refine rZ 2 ?_
     obtain ⟨m_, hq_, hm_⟩ := nm (m10Judge w x s)
     unfold m10Judge at hm_
     simp only [bF h1, bF h2, bF h3, bT h5] at hm_
     refine qR [.agg (encWalk m_).toArray] (fun W1_ hT_ hR_ hF_ => ?_) (h := by rewrite [← hm_]; kernel_rfl)
     rw [hq_, ← hm_]
     exact ⟨rfl, hT_.below⟩
    ·refine rZ 7 ?_
     refine qS 46 (s == 1) (fun h6 => ?_) (fun h6 => ?_)
     ·refine rZ 6 ?_
      refine qI (x.seen == (carF w.b x.curr)) (fun h7 => ?_) (fun h7 => ?_)
      ·refine rZ 10 ?_
       obtain ⟨m_, hq_, hm_⟩ := nm (m10Judge w x s)
       unfold m10Judge at hm_
       simp only [bF h1, bF h2, bF h3, bF h5, bT h6, bT h7] at hm_
       refine qR [.agg (encWalk m_).toArray] (fun W1_ hT_ hR_ hF_ => ?_) (h := by rewrite [← hm_]; kernel_rfl)
       rw [hq_, ← hm_]
       exact ⟨rfl, hT_.below⟩
      ·refine rZ 7 ?_
       refine qI (s == 1) (fun hx_ => ?_) (fun hx_ => by rw [h6] at hx_; cases hx_)
       clear hx_
       refine rZ 10 ?_
       refine qV [.agg (encW w rw).toArray, .agg (encWalk ⟨x.key, x.mode, x.phase, x.pred, x.curr, x.next, (carF w.b x.curr), x.found, x.stop, x.done⟩).toArray] (fun W_ hT_ hR_ => k10_advance _ _ ⟨x.key, x.mode, x.phase, x.pred, x.curr, x.next, (carF w.b x.curr), x.found, x.stop, x.done⟩ _ (wget hR_ 0 rfl)) ?_
       refine rZ 2 ?_
       obtain ⟨m_, hq_, hm_⟩ := nm (m10Judge w x s)
       unfold m10Judge at hm_
       simp only [bF h1, bF h2, bF h3, bF h5, bT h6, bF h7] at hm_
       refine qR [.agg (encWalk m_).toArray] (fun W1_ hT_ hR_ hF_ => ?_) (h := by rewrite [← hm_]; kernel_rfl)
       rw [hq_, ← hm_]
       exact ⟨rfl, hT_.below⟩
     ·refine rZ 14 ?_
      refine qI (s == 1) (fun hx_ => by rw [h6] at hx_; cases hx_) (fun hx_ => ?_)
      clear hx_
      refine rZ 13 ?_
      refine qI (x.seen != (-1)) (fun h10 => ?_) (fun h10 => ?_)
      ·refine rZ 9 ?_
       obtain ⟨m_, hq_, hm_⟩ := nm (m10Judge w x s)
       unfold m10Judge at hm_
       simp only [bF h1, bF h2, bF h3, bF h5, bF h6, bT h10] at hm_
       refine qR [.agg (encWalk m_).toArray] (fun W1_ hT_ hR_ hF_ => ?_) (h := by rewrite [← hm_]; kernel_rfl)
       rw [hq_, ← hm_]
       exact ⟨rfl, hT_.below⟩
      ·refine rZ 6 ?_
       obtain ⟨m_, hq_, hm_⟩ := nm (m10Judge w x s)
       unfold m10Judge at hm_
       simp only [bF h1, bF h2, bF h3, bF h5, bF h6, bF h10] at hm_
       refine qR [.agg (encWalk m_).toArray] (fun W1_ hT_ hR_ hF_ => ?_) (h := by rewrite [← hm_]; kernel_rfl)
       rw [hq_, ← hm_]
       exact ⟨rfl, hT_.below⟩
def k10_look.T6 : Bool × List (List Nat × List Nat) := (true, [([], []), ([], []), ([], []), ([1, 2], [1, 2]), ([0, 3, 0], [0]), ([3, 4, 0, 1, 2, 3, 4], [3])])
def k10_look.T13 : Bool × List (List Nat × List Nat) := (true, [([], []), ([], []), ([0, 0], [0]), ([1, 2, 0, 1, 2], [1])])
def k10_look.T14 : Bool × List (List Nat × List Nat) := (true, [([], []), ([], []), ([1], [1]), ([], []), ([3], [3]), ([2, 4], [2, 4]), ([0, 5, 5], [0, 5]), ([6], [6]), ([7], [7]), ([7], [7]), ([], []), ([10, 8, 6, 0, 1, 2, 3, 4, 5, 6, 7, 8, 10], [8, 10]), ([9, 11, 0, 1, 2, 3, 4, 5, 6, 7, 8, 9, 10, 11], [9])])
def k10_look.T15 : Bool × List (List Nat × List Nat) := (true, [([], []), ([], []), ([], []), ([], []), ([1, 2, 3], [1, 2, 3]), ([0, 4, 0], [0]), ([4, 5, 0, 1, 2, 3, 4, 5], [4])])
def k10_look.c1 (w : RW) (rw : RX) (x : WalkR) (x_ : RX) : St := match x_ with | rx6_ => ⟨[some ⟨true, 37, (encW w rw).map .v⟩, some ⟨true, 70, (encWalk x).map .v⟩, some ⟨true, 37, (encW (RW.mk ⟨0, 0, 0, 0, 0⟩ [] 0 (RB.mk ⟨0, 0, 0, 0, 0⟩ [] [] [] [] [])) (RX.mk none 0 (RA.mk none none none none none 0 0 0 0 0))).map .v⟩, some ⟨true, 70, (encWalk zWalkR).map .v⟩, some ⟨true, 37, (encW ((m08Word w (carF w.b x.curr)).1) rx6_).map .v⟩], [.v (.agg (encW w rw).toArray), .v (.agg (encWalk x).toArray), .ad 0 0, .ad 1 0, .ad 2 0, .ad 3 0, .v (undef), .v (undef), .v (undef), .v (undef), .ad 4 0, .v (.int .u64 ((m08Word w (carF w.b x.curr)).2)), .ad 1 2, .v (.int .i64 x.phase), .v (.bool (x.phase == 0)), .v (undef), .v (undef), .v (undef), .v (undef), .v (undef), .v (undef), .v (undef), .v (undef), .v (undef), .v (undef), .v (undef), .v (undef), .v (undef), .v (undef), .v (undef), .v (undef), .v (undef), .v (undef), .v (undef), .v (undef), .ad 1 2, .v (.int .i64 x.phase), .v (.bool (x.phase == 1)), .v (undef), .v (undef), .v (undef), .v (undef), .v (undef), .v (undef), .v (undef), .v (undef), .v (undef), .v (undef), .v (undef), .v (undef), .v (undef), .v (undef), .v (undef), .v (.tuple #[.agg (encW ((m08Word w (carF w.b x.curr)).1) rx6_).toArray, .int .u64 ((m08Word w (carF w.b x.curr)).2)]), .v (.agg (encW w rw).toArray), .ad 0 7, .v (.agg (encB w.b rw.r).toArray), .ad 1 4, .v (.int .i64 x.curr), .v (.int .i64 (carF w.b x.curr)), .v (.tuple #[.agg (encW ((m08Word w (carF w.b x.curr)).1) rx6_).toArray, .int .u64 ((m08Word w (carF w.b x.curr)).2)]), .v (.agg (encW ((m08Word w (carF w.b x.curr)).1) rx6_).toArray), .v (.int .u64 ((m08Word w (carF w.b x.curr)).2)), .v (undef), .v (undef), .v (undef), .v (undef), .v (undef)]⟩
def k10_look.r1 (w : RW) (rw : RX) (x : WalkR) (x_ : RX) : List PRep := match x_ with | rx6_ => [wRep ((m08Word w (carF w.b x.curr)).1) rx6_, wRep w rw]
def m10Look (w : RW) (x : WalkR) : RW × WalkR := (bif (x.phase == 0) then ((m08Next w (m08Head w x.key)).1, (m10Arrive ((m08Next w (m08Head w x.key)).1) ⟨x.key, x.mode, x.phase, (m08Head w x.key), (pIndex ((m08Next w (m08Head w x.key)).2)), x.next, (-1), x.found, x.stop, x.done⟩)) else (bif (x.phase == 1) then (bif (pMarked ((m08Next w x.curr).2)) then ((m08Next w x.curr).1, ⟨x.key, x.mode, 2, x.pred, x.curr, (m08Next w x.curr).2, x.seen, x.found, x.stop, x.done⟩) else ((m08Next w x.curr).1, ⟨x.key, x.mode, 3, x.pred, x.curr, (m08Next w x.curr).2, x.seen, x.found, x.stop, x.done⟩)) else ((m08Word w (carF w.b x.curr)).1, (m10Judge ((m08Word w (carF w.b x.curr)).1) x ((m08Word w (carF w.b x.curr)).2)))))
theorem k10_look (w : RW) (rw : RX) (x : WalkR) (W : World) (hW : WAt W w rw) : Calls Try.prog 86 #[.agg (encW w rw).toArray, .agg (encWalk x).toArray] W (fun e W' => ∃ r0 : RX, e = .returned (.tuple #[.agg (encW ((m10Look w x).1) r0).toArray, .agg (encWalk (m10Look w x).2).toArray]) ∧ WAt W' (m10Look w x).1 r0 ∧ FreshIn [wRep w rw] W (wRep (m10Look w x).1 r0) ∧ Below W.heap.size W W') := by
 refine rf_enter (args := [.agg (encW w rw).toArray, .agg (encWalk x).toArray]) [wRep w rw] Try.func86 rfl (by intro r hr; obtain rfl := List.mem_singleton.mp hr; exact hW) ?_
 refine rX 14 ?_
 refine qI (x.phase == 0) (fun h1 => ?_) (fun h1 => ?_)
 ·refine rZ 5 ?_
  refine qV [.agg (encW w rw).toArray, .int .u64 x.key] (fun W_ hT_ hR_ => k08_Head _ _ _ _ (wget hR_ 0 rfl)) ?_
  refine rZ 8 ?_
  refine qC [.agg (encW w rw).toArray, .int .i64 (m08Head w x.key)] fun W_ hT_ hR_ => (k08_Next _ _ _ _ (wget hR_ 0 rfl)).mono ?_
  rintro e_ W1_ ⟨rx2_, rfl, hw2_, hf2_, hb_⟩
  refine ⟨_, [wRep ((m08Next w (m08Head w x.key)).1) rx2_], rfl, hb_, (NewOk.cons hw2_ (hf2_.one (fun k_ => (fun h_ => ⟨_, mG 0 rfl, h_⟩))) NewOk.nil), ?_⟩
  refine rZ 10 ?_
  refine qV [.int .u64 ((m08Next w (m08Head w x.key)).2)] (fun W_ hT_ hR_ => c01_Index ((m08Next w (m08Head w x.key)).2) _) ?_
  refine rZ 9 ?_
  refine qD k10_look.T6 [0, 0, 0, 6, 15, 31] [] [4, 1] [] ?_
  refine rO [0, 1, 2, 3, 4, 5] ?_
  refine rZ 4 ?_
  refine qV [.agg (encW ((m08Next w (m08Head w x.key)).1) rx2_).toArray, .agg (encWalk ⟨x.key, x.mode, x.phase, (m08Head w x.key), (pIndex ((m08Next w (m08Head w x.key)).2)), x.next, (-1), x.found, x.stop, x.done⟩).toArray] (fun W_ hT_ hR_ => k10_arrive _ _ ⟨x.key, x.mode, x.phase, (m08Head w x.key), (pIndex ((m08Next w (m08Head w x.key)).2)), x.next, (-1), x.found, x.stop, x.done⟩ _ (wget hR_ 0 rfl)) ?_
  refine rZ 5 ?_
  obtain ⟨m_, hq_, hm_⟩ := nm (m10Look w x)
  unfold m10Look at hm_
  simp only [bT h1] at hm_
  refine qR [.agg (encW m_.1 rx2_).toArray, .agg (encWalk m_.2).toArray] (fun W1_ hT_ hR_ hF_ => ?_) (h := by rewrite [← hm_]; kernel_rfl)
  rw [hq_, ← hm_]
  exact ⟨_, rfl, (wget hR_ 0 rfl), (fun k_ => (fun h_ => hF_ _ (mG 0 rfl) k_ h_)), hT_.below⟩
 ·refine rZ 8 ?_
  refine qI (x.phase == 1) (fun h3 => ?_) (fun h3 => ?_)
  ·refine rZ 5 ?_
   refine qC [.agg (encW w rw).toArray, .int .i64 x.curr] fun W_ hT_ hR_ => (k08_Next _ _ _ _ (wget hR_ 0 rfl)).mono ?_
   rintro e_ W1_ ⟨rx4_, rfl, hw4_, hf4_, hb_⟩
   refine ⟨_, [wRep ((m08Next w x.curr).1) rx4_], rfl, hb_, (NewOk.cons hw4_ (hf4_.one (fun k_ => (fun h_ => ⟨_, mG 0 rfl, h_⟩))) NewOk.nil), ?_⟩
   refine rZ 22 ?_
   refine qV [.int .u64 ((m08Next w x.curr).2)] (fun W_ hT_ hR_ => c01_Marked ((m08Next w x.curr).2) _) ?_
   refine rZ 1 ?_
   refine qI (pMarked ((m08Next w x.curr).2)) (fun h5 => ?_) (fun h5 => ?_)
   ·refine rZ 5 ?_
    refine qD k10_look.T13 [0, 0, 1, 7] [] [4, 1] [] ?_
    refine rO [0, 1, 2, 3] ?_
    refine rZ 7 ?_
    obtain ⟨m_, hq_, hm_⟩ := nm (m10Look w x)
    unfold m10Look at hm_
    simp only [bF h1, bT h3, bT h5] at hm_
    refine qR [.agg (encW m_.1 rx4_).toArray, .agg (encWalk m_.2).toArray] (fun W1_ hT_ hR_ hF_ => ?_) (h := by rewrite [← hm_]; kernel_rfl)
    rw [hq_, ← hm_]
    exact ⟨_, rfl, (wget hR_ 0 rfl), (fun k_ => (fun h_ => hF_ _ (mG 0 rfl) k_ h_)), hT_.below⟩
   ·refine rZ 2 ?_
    refine qD k10_look.T13 [0, 0, 1, 7] [] [4, 1] [] ?_
    refine rO [0, 1, 2, 3] ?_
    refine rZ 7 ?_
    obtain ⟨m_, hq_, hm_⟩ := nm (m10Look w x)
    unfold m10Look at hm_
    simp only [bF h1, bT h3, bF h5] at hm_
    refine qR [.agg (encW m_.1 rx4_).toArray, .agg (encWalk m_.2).toArray] (fun W1_ hT_ hR_ hF_ => ?_) (h := by rewrite [← hm_]; kernel_rfl)
    rw [hq_, ← hm_]
    exact ⟨_, rfl, (wget hR_ 0 rfl), (fun k_ => (fun h_ => hF_ _ (mG 0 rfl) k_ h_)), hT_.below⟩
  ·refine rZ 2 ?_
   refine qK (k10_look.c1 w rw x) (k10_look.r1 w rw x) (fun _ => True) ?_ ?_
   ·refine qD k10_look.T14 [0, 0, 2, 0, 8, 30, 63, 127, 255, 255, 0, 1535, 4095] [11] [0, 1] [] ?_
    refine rO [0, 1, 2, 3, 4] ?_
    refine rZ 5 ?_
    refine qF 5 10 ?_ ?_
    ·refine rO [] ?_
     refine qV [.agg (encB w.b rw.r).toArray, .int .i64 x.curr] (fun W_ hT_ hR_ => c07_Carried w.b rw.r x.curr _ (wget hR_ 0 rfl).b) ?_
     refine qF 6 10 ?_ ?_
     ·refine rO [7, 8, 9, 10, 11, 12] ?_
      refine qC [.agg (encW w rw).toArray, .int .i64 (carF w.b x.curr)] fun W_ hT_ hR_ => (k08_Word _ _ _ _ (wget hR_ 0 rfl)).mono ?_
      rintro e_ W1_ ⟨rx6_, rfl, hw6_, hf6_, hb_⟩
      refine ⟨_, [wRep ((m08Word w (carF w.b x.curr)).1) rx6_], rfl, hb_, (NewOk.cons hw6_ (hf6_.one (fun k_ => (fun h_ => ⟨_, mG 0 rfl, h_⟩))) NewOk.nil), ?_⟩
      refine rZ 9 ?_
      exact qJ (k10_look.c1 w rw x) (k10_look.r1 w rw x) (fun _ => True) rx6_ trivial (by simp [k10_look.r1])
     ·refine rO [6, 7, 8, 9, 11, 12] ?_
      refine rZ 2 ?_
      refine qC [.agg (encW w rw).toArray, .int .i64 (carF w.b x.curr)] fun W_ hT_ hR_ => (k08_Word _ _ _ _ (wget hR_ 0 rfl)).mono ?_
      rintro e_ W1_ ⟨rx7_, rfl, hw7_, hf7_, hb_⟩
      refine ⟨_, [wRep ((m08Word w (carF w.b x.curr)).1) rx7_], rfl, hb_, (NewOk.cons hw7_ (hf7_.one (fun k_ => (fun h_ => ⟨_, mG 0 rfl, h_⟩))) NewOk.nil), ?_⟩
      refine rZ 7 ?_
      exact qJ (k10_look.c1 w rw x) (k10_look.r1 w rw x) (fun _ => True) rx7_ trivial (by simp [k10_look.r1])
    ·refine rO [5, 6, 7, 8, 9, 11, 12] ?_
     refine rZ 2 ?_
     refine qV [.agg (encB w.b rw.r).toArray, .int .i64 x.curr] (fun W_ hT_ hR_ => c07_Carried w.b rw.r x.curr _ (wget hR_ 0 rfl).b) ?_
     refine rZ 1 ?_
     refine qC [.agg (encW w rw).toArray, .int .i64 (carF w.b x.curr)] fun W_ hT_ hR_ => (k08_Word _ _ _ _ (wget hR_ 0 rfl)).mono ?_
     rintro e_ W1_ ⟨rx8_, rfl, hw8_, hf8_, hb_⟩
     refine ⟨_, [wRep ((m08Word w (carF w.b x.curr)).1) rx8_], rfl, hb_, (NewOk.cons hw8_ (hf8_.one (fun k_ => (fun h_ => ⟨_, mG 0 rfl, h_⟩))) NewOk.nil), ?_⟩
     refine rZ 7 ?_
     exact qJ (k10_look.c1 w rw x) (k10_look.r1 w rw x) (fun _ => True) rx8_ trivial (by simp [k10_look.r1])
   ·rintro rx6_ -
    refine rZ 1 ?_
    refine qD k10_look.T15 [0, 0, 0, 0, 14, 31, 63] [] [4, 1] [] ?_
    refine rO [0, 1, 2, 3, 4, 5, 6] ?_
    refine rZ 5 ?_
    refine qV [.agg (encW ((m08Word w (carF w.b x.curr)).1) rx6_).toArray, .agg (encWalk x).toArray, .int .u64 ((m08Word w (carF w.b x.curr)).2)] (fun W_ hT_ hR_ => k10_judge _ _ _ _ _ (wget hR_ 0 rfl)) ?_
    refine rZ 5 ?_
    obtain ⟨m_, hq_, hm_⟩ := nm (m10Look w x)
    unfold m10Look at hm_
    simp only [bF h1, bF h3] at hm_
    refine qR [.agg (encW m_.1 rx6_).toArray, .agg (encWalk m_.2).toArray] (fun W1_ hT_ hR_ hF_ => ?_) (h := by rewrite [← hm_]; kernel_rfl)
    rw [hq_, ← hm_]
    exact ⟨_, rfl, (wget hR_ 0 rfl), (fun k_ => (fun h_ => hF_ _ (mG 0 rfl) k_ h_)), hT_.below⟩
def k10_unlink.T2 : Bool × List (List Nat × List Nat) := (true, [([], []), ([], []), ([1], [1]), ([], []), ([3], [3]), ([4], [4]), ([], []), ([6, 5], [6]), ([0, 2, 5, 7, 7], [0, 2, 5, 7]), ([8], [8]), ([9], [9]), ([9], [9]), ([], []), ([12, 10, 8, 0, 1, 2, 3, 4, 5, 6, 7, 8, 9, 10, 12], [10, 12]), ([11, 13, 0, 1, 2, 3, 4, 5, 6, 7, 8, 9, 10, 11, 12, 13], [11])])
def k10_unlink.T5 : Bool × List (List Nat × List Nat) := (true, [([], []), ([], []), ([0, 0], [0]), ([1, 2, 0, 1, 2], [1])])
def k10_unlink.T7 : Bool × List (List Nat × List Nat) := (true, [([], []), ([], []), ([], []), ([1, 2], [1, 2]), ([0, 3, 0], [0]), ([3, 4, 0, 1, 2, 3, 4], [3])])
def k10_unlink.c1 (w : RW) (rw : RX) (x : WalkR) (x_ : RX) : St := match x_ with | rx1_ => ⟨[some ⟨true, 37, (encW w rw).map .v⟩, some ⟨true, 70, (encWalk x).map .v⟩, some ⟨true, 37, (encW (RW.mk ⟨0, 0, 0, 0, 0⟩ [] 0 (RB.mk ⟨0, 0, 0, 0, 0⟩ [] [] [] [] [])) (RX.mk none 0 (RA.mk none none none none none 0 0 0 0 0))).map .v⟩, some ⟨true, 70, (encWalk zWalkR).map .v⟩, some ⟨true, 37, (encW ((m08Link w x.pred (pPack x.curr false) (pPack (pIndex x.next) false)).1) rx1_).map .v⟩], [.v (.agg (encW w rw).toArray), .v (.agg (encWalk x).toArray), .ad 0 0, .ad 1 0, .ad 2 0, .ad 3 0, .v (.int .i64 (pIndex x.next)), .ad 4 0, .v (.bool ((m08Link w x.pred (pPack x.curr false) (pPack (pIndex x.next) false)).2)), .ad 1 5, .v (.int .u64 x.next), .v (.int .i64 (pIndex x.next)), .v (.tuple #[.agg (encW ((m08Link w x.pred (pPack x.curr false) (pPack (pIndex x.next) false)).1) rx1_).toArray, .bool ((m08Link w x.pred (pPack x.curr false) (pPack (pIndex x.next) false)).2)]), .v (.agg (encW w rw).toArray), .ad 1 3, .v (.int .i64 x.pred), .ad 1 4, .v (.int .i64 x.curr), .v (.int .u64 (pPack x.curr false)), .v (.int .i64 (pIndex x.next)), .v (.int .u64 (pPack (pIndex x.next) false)), .v (.tuple #[.agg (encW ((m08Link w x.pred (pPack x.curr false) (pPack (pIndex x.next) false)).1) rx1_).toArray, .bool ((m08Link w x.pred (pPack x.curr false) (pPack (pIndex x.next) false)).2)]), .v (.agg (encW ((m08Link w x.pred (pPack x.curr false) (pPack (pIndex x.next) false)).1) rx1_).toArray), .v (.bool ((m08Link w x.pred (pPack x.curr false) (pPack (pIndex x.next) false)).2)), .v (undef), .v (undef), .v (undef), .v (undef), .v (undef), .v (undef), .v (undef), .v (undef), .v (undef), .v (undef), .v (undef)]⟩
def k10_unlink.r1 (w : RW) (rw : RX) (x : WalkR) (x_ : RX) : List PRep := match x_ with | rx1_ => [wRep ((m08Link w x.pred (pPack x.curr false) (pPack (pIndex x.next) false)).1) rx1_, wRep w rw]
def m10Unlink (w : RW) (x : WalkR) : RW × WalkR := (bif (!(m08Link w x.pred (pPack x.curr false) (pPack (pIndex x.next) false)).2) then ((m08Link w x.pred (pPack x.curr false) (pPack (pIndex x.next) false)).1, ⟨x.key, x.mode, 0, x.pred, x.curr, x.next, x.seen, x.found, x.stop, x.done⟩) else ((m08Link w x.pred (pPack x.curr false) (pPack (pIndex x.next) false)).1, (m10Arrive ((m08Link w x.pred (pPack x.curr false) (pPack (pIndex x.next) false)).1) ⟨x.key, x.mode, x.phase, x.pred, (pIndex x.next), x.next, x.seen, x.found, x.stop, x.done⟩)))
theorem k10_unlink (w : RW) (rw : RX) (x : WalkR) (W : World) (hW : WAt W w rw) : Calls Try.prog 87 #[.agg (encW w rw).toArray, .agg (encWalk x).toArray] W (fun e W' => ∃ r0 : RX, e = .returned (.tuple #[.agg (encW ((m10Unlink w x).1) r0).toArray, .agg (encWalk (m10Unlink w x).2).toArray]) ∧ WAt W' (m10Unlink w x).1 r0 ∧ FreshIn [wRep w rw] W (wRep (m10Unlink w x).1 r0) ∧ Below W.heap.size W W') := by
 refine rf_enter (args := [.agg (encW w rw).toArray, .agg (encWalk x).toArray]) [wRep w rw] Try.func87 rfl (by intro r hr; obtain rfl := List.mem_singleton.mp hr; exact hW) ?_
 refine rX 11 ?_
 refine qV [.int .u64 x.next] (fun W_ hT_ hR_ => c01_Index x.next _) ?_
 refine rZ 3 ?_
 refine qK (k10_unlink.c1 w rw x) (k10_unlink.r1 w rw x) (fun _ => True) ?_ ?_
 ·refine qD k10_unlink.T2 [0, 0, 2, 0, 8, 24, 0, 120, 255, 511, 1023, 1023, 0, 6143, 16383] [13] [0, 1] [] ?_
  refine rO [0, 1, 2, 3, 4, 6] ?_
  refine rZ 6 ?_
  refine qF 5 12 ?_ ?_
  ·refine rO [] ?_
   refine qV [.int .i64 x.curr, .bool false] (fun W_ hT_ hR_ => c01_Pack x.curr false _) ?_
   refine qF 7 12 ?_ ?_
   ·refine rO [] ?_
    refine qV [.int .i64 (pIndex x.next), .bool false] (fun W_ hT_ hR_ => c01_Pack (pIndex x.next) false _) ?_
    refine qF 8 12 ?_ ?_
    ·refine rO [9, 10, 11, 12, 13, 14] ?_
     refine qC [.agg (encW w rw).toArray, .int .i64 x.pred, .int .u64 (pPack x.curr false), .int .u64 (pPack (pIndex x.next) false)] fun W_ hT_ hR_ => (k08_Link _ _ _ _ _ _ (wget hR_ 0 rfl)).mono ?_
     rintro e_ W1_ ⟨rx1_, rfl, hw1_, hf1_, hb_⟩
     refine ⟨_, [wRep ((m08Link w x.pred (pPack x.curr false) (pPack (pIndex x.next) false)).1) rx1_], rfl, hb_, (NewOk.cons hw1_ (hf1_.one (fun k_ => (fun h_ => ⟨_, mG 0 rfl, h_⟩))) NewOk.nil), ?_⟩
     refine rZ 9 ?_
     exact qJ (k10_unlink.c1 w rw x) (k10_unlink.r1 w rw x) (fun _ => True) rx1_ trivial (by simp [k10_unlink.r1])
    ·refine rO [8, 9, 10, 11, 13, 14] ?_
     refine rZ 2 ?_
     refine qC [.agg (encW w rw).toArray, .int .i64 x.pred, .int .u64 (pPack x.curr false), .int .u64 (pPack (pIndex x.next) false)] fun W_ hT_ hR_ => (k08_Link _ _ _ _ _ _ (wget hR_ 0 rfl)).mono ?_
     rintro e_ W1_ ⟨rx2_, rfl, hw2_, hf2_, hb_⟩
     refine ⟨_, [wRep ((m08Link w x.pred (pPack x.curr false) (pPack (pIndex x.next) false)).1) rx2_], rfl, hb_, (NewOk.cons hw2_ (hf2_.one (fun k_ => (fun h_ => ⟨_, mG 0 rfl, h_⟩))) NewOk.nil), ?_⟩
     refine rZ 7 ?_
     exact qJ (k10_unlink.c1 w rw x) (k10_unlink.r1 w rw x) (fun _ => True) rx2_ trivial (by simp [k10_unlink.r1])
   ·refine rO [7, 8, 9, 10, 11, 13, 14] ?_
    refine rZ 2 ?_
    refine qV [.int .i64 (pIndex x.next), .bool false] (fun W_ hT_ hR_ => c01_Pack (pIndex x.next) false _) ?_
    refine rZ 1 ?_
    refine qC [.agg (encW w rw).toArray, .int .i64 x.pred, .int .u64 (pPack x.curr false), .int .u64 (pPack (pIndex x.next) false)] fun W_ hT_ hR_ => (k08_Link _ _ _ _ _ _ (wget hR_ 0 rfl)).mono ?_
    rintro e_ W1_ ⟨rx3_, rfl, hw3_, hf3_, hb_⟩
    refine ⟨_, [wRep ((m08Link w x.pred (pPack x.curr false) (pPack (pIndex x.next) false)).1) rx3_], rfl, hb_, (NewOk.cons hw3_ (hf3_.one (fun k_ => (fun h_ => ⟨_, mG 0 rfl, h_⟩))) NewOk.nil), ?_⟩
    refine rZ 7 ?_
    exact qJ (k10_unlink.c1 w rw x) (k10_unlink.r1 w rw x) (fun _ => True) rx3_ trivial (by simp [k10_unlink.r1])
  ·refine rO [5, 7, 8, 9, 10, 11, 13, 14] ?_
   refine rZ 2 ?_
   refine qV [.int .i64 x.curr, .bool false] (fun W_ hT_ hR_ => c01_Pack x.curr false _) ?_
   refine rZ 1 ?_
   refine qV [.int .i64 (pIndex x.next), .bool false] (fun W_ hT_ hR_ => c01_Pack (pIndex x.next) false _) ?_
   refine rZ 1 ?_
   refine qC [.agg (encW w rw).toArray, .int .i64 x.pred, .int .u64 (pPack x.curr false), .int .u64 (pPack (pIndex x.next) false)] fun W_ hT_ hR_ => (k08_Link _ _ _ _ _ _ (wget hR_ 0 rfl)).mono ?_
   rintro e_ W1_ ⟨rx4_, rfl, hw4_, hf4_, hb_⟩
   refine ⟨_, [wRep ((m08Link w x.pred (pPack x.curr false) (pPack (pIndex x.next) false)).1) rx4_], rfl, hb_, (NewOk.cons hw4_ (hf4_.one (fun k_ => (fun h_ => ⟨_, mG 0 rfl, h_⟩))) NewOk.nil), ?_⟩
   refine rZ 7 ?_
   exact qJ (k10_unlink.c1 w rw x) (k10_unlink.r1 w rw x) (fun _ => True) rx4_ trivial (by simp [k10_unlink.r1])
 ·rintro rx1_ -
  refine rZ 6 ?_
  refine qI (!(m08Link w x.pred (pPack x.curr false) (pPack (pIndex x.next) false)).2) (fun h5 => ?_) (fun h5 => ?_)
  ·refine rZ 6 ?_
   refine qD k10_unlink.T5 [0, 0, 1, 7] [] [4, 1] [] ?_
   refine rO [0, 1, 2, 3] ?_
   refine rZ 7 ?_
   obtain ⟨m_, hq_, hm_⟩ := nm (m10Unlink w x)
   unfold m10Unlink at hm_
   simp only [bT h5] at hm_
   refine qR [.agg (encW m_.1 rx1_).toArray, .agg (encWalk m_.2).toArray] (fun W1_ hT_ hR_ hF_ => ?_) (h := by rewrite [← hm_]; kernel_rfl)
   rw [hq_, ← hm_]
   exact ⟨_, rfl, (wget hR_ 0 rfl), (fun k_ => (fun h_ => hF_ _ (mG 0 rfl) k_ h_)), hT_.below⟩
  ·refine rZ 8 ?_
   refine qD k10_unlink.T7 [0, 0, 0, 6, 15, 31] [] [4, 1] [] ?_
   refine rO [0, 1, 2, 3, 4, 5] ?_
   refine rZ 4 ?_
   refine qV [.agg (encW ((m08Link w x.pred (pPack x.curr false) (pPack (pIndex x.next) false)).1) rx1_).toArray, .agg (encWalk ⟨x.key, x.mode, x.phase, x.pred, (pIndex x.next), x.next, x.seen, x.found, x.stop, x.done⟩).toArray] (fun W_ hT_ hR_ => k10_arrive _ _ ⟨x.key, x.mode, x.phase, x.pred, (pIndex x.next), x.next, x.seen, x.found, x.stop, x.done⟩ _ (wget hR_ 0 rfl)) ?_
   refine rZ 5 ?_
   obtain ⟨m_, hq_, hm_⟩ := nm (m10Unlink w x)
   unfold m10Unlink at hm_
   simp only [bF h5] at hm_
   refine qR [.agg (encW m_.1 rx1_).toArray, .agg (encWalk m_.2).toArray] (fun W1_ hT_ hR_ hF_ => ?_) (h := by rewrite [← hm_]; kernel_rfl)
   rw [hq_, ← hm_]
   exact ⟨_, rfl, (wget hR_ 0 rfl), (fun k_ => (fun h_ => hF_ _ (mG 0 rfl) k_ h_)), hT_.below⟩
def m10New (k : Int) (n : Int) : WalkR := ⟨k, n, 0, 0, 0, 0, (-1), (-1), false, false⟩
theorem k10_New (k : Int) (n : Int) (W : World) : Calls Try.prog 84 #[.int .u64 k, .int .i64 n] W (fun e W' => e = .returned (.agg (encWalk (m10New k n)).toArray) ∧ Below W.heap.size W W') := by
 refine rf_enter (args := [.int .u64 k, .int .i64 n]) [] Try.func84 rfl (by simp) ?_
 refine rX 11 ?_
 obtain ⟨m_, hq_, hm_⟩ := nm (m10New k n)
 unfold m10New at hm_
 refine qR [.agg (encWalk m_).toArray] (fun W1_ hT_ hR_ hF_ => ?_) (h := by rewrite [← hm_]; kernel_rfl)
 rw [hq_, ← hm_]
 exact ⟨rfl, hT_.below⟩
def k10_Step.T2 : Bool × List (List Nat × List Nat) := (true, [([], []), ([], []), ([0, 0], [0]), ([1, 2, 0, 1, 2], [1])])
def k10_Step.T12 : Bool × List (List Nat × List Nat) := (true, [([], []), ([], []), ([1], [1]), ([], []), ([3], [3]), ([], []), ([5], [5]), ([6], [6]), ([0, 2, 4, 7, 7], [0, 2, 4, 7]), ([8], [8]), ([9], [9]), ([9], [9]), ([], []), ([12, 10, 8, 0, 1, 2, 3, 4, 5, 6, 7, 8, 9, 10, 12], [10, 12]), ([11, 13, 0, 1, 2, 3, 4, 5, 6, 7, 8, 9, 10, 11, 12, 13], [11])])
def k10_Step.T14 : Bool × List (List Nat × List Nat) := (true, [([], []), ([], []), ([0, 0], [0]), ([1, 2, 0, 1, 2], [1])])
def k10_Step.T21 : Bool × List (List Nat × List Nat) := (true, [([], []), ([], []), ([0, 0], [0]), ([1, 2, 0, 1, 2], [1])])
def k10_Step.T25 : Bool × List (List Nat × List Nat) := (true, [([], []), ([], []), ([0, 0], [0]), ([1, 2, 0, 1, 2], [1])])
def k10_Step.T29 : Bool × List (List Nat × List Nat) := (true, [([], []), ([], []), ([0, 0], [0]), ([1, 2, 0, 1, 2], [1])])
def k10_Step.T31 : Bool × List (List Nat × List Nat) := (true, [([], []), ([], []), ([0, 0], [0]), ([1, 2, 0, 1, 2], [1])])
def k10_Step.c1 (w : RW) (rw : RX) (x : WalkR) (x_ : RX) : St := match x_ with | rx13_ => ⟨[some ⟨true, 37, (encW w rw).map .v⟩, some ⟨true, 70, (encWalk x).map .v⟩, some ⟨true, 37, (encW (RW.mk ⟨0, 0, 0, 0, 0⟩ [] 0 (RB.mk ⟨0, 0, 0, 0, 0⟩ [] [] [] [] [])) (RX.mk none 0 (RA.mk none none none none none 0 0 0 0 0))).map .v⟩, some ⟨true, 70, (encWalk zWalkR).map .v⟩, some ⟨true, 37, (encW ((m08Link w x.curr x.next (pMark x.next)).1) rx13_).map .v⟩], [.v (.agg (encW w rw).toArray), .v (.agg (encWalk x).toArray), .ad 0 0, .ad 1 0, .ad 2 0, .ad 3 0, .v (.int .i64 (carF w.b x.curr)), .ad 4 0, .v (.bool ((m08Link w x.curr x.next (pMark x.next)).2)), .v (undef), .v (undef), .v (undef), .v (undef), .v (undef), .v (undef), .ad 1 9, .v (.bool x.done), .v (undef), .v (undef), .ad 0 7, .v (.agg (encB w.b rw.r).toArray), .ad 1 4, .v (.int .i64 x.curr), .v (.int .i64 (carF w.b x.curr)), .ad 1 2, .v (.int .i64 x.phase), .v (.bool (x.phase == 3)), .v (.bool (x.phase == 0)), .v (.bool (x.phase == 1)), .v (.bool (x.phase == 3)), .v (undef), .v (undef), .v (undef), .v (undef), .v (undef), .v (.bool (x.phase == 2)), .v (.bool (x.phase == 2)), .v (undef), .v (undef), .v (undef), .v (undef), .v (undef), .v (.bool (x.phase == 4)), .v (.bool (x.phase == 4)), .v (.tuple #[.agg (encW ((m08Link w x.curr x.next (pMark x.next)).1) rx13_).toArray, .bool ((m08Link w x.curr x.next (pMark x.next)).2)]), .v (.agg (encW w rw).toArray), .ad 1 4, .v (.int .i64 x.curr), .ad 1 5, .v (.int .u64 x.next), .ad 1 5, .v (.int .u64 x.next), .v (.int .u64 (pMark x.next)), .v (.tuple #[.agg (encW ((m08Link w x.curr x.next (pMark x.next)).1) rx13_).toArray, .bool ((m08Link w x.curr x.next (pMark x.next)).2)]), .v (.agg (encW ((m08Link w x.curr x.next (pMark x.next)).1) rx13_).toArray), .v (.bool ((m08Link w x.curr x.next (pMark x.next)).2)), .v (undef), .v (undef), .v (undef), .v (undef), .v (undef), .v (undef), .v (undef), .v (undef), .v (undef), .v (undef), .v (undef), .v (undef), .v (undef), .v (undef), .v (undef), .v (undef), .v (undef), .v (undef), .v (undef), .v (undef), .v (undef), .v (undef), .v (undef), .v (undef), .v (undef), .v (undef), .v (undef), .v (undef), .v (undef), .v (undef), .v (undef), .v (undef), .v (undef), .v (undef), .v (undef), .v (undef), .v (undef), .v (undef), .v (undef), .v (undef), .v (undef), .v (undef), .v (undef), .v (undef)]⟩
def k10_Step.r1 (w : RW) (rw : RX) (x : WalkR) (x_ : RX) : List PRep := match x_ with | rx13_ => [wRep ((m08Link w x.curr x.next (pMark x.next)).1) rx13_, wRep w rw]
def m10Step (w : RW) (x : WalkR) : RW × WalkR := (bif x.done then (w, x) else (bif (x.phase == 0) then ((m10Look w x).1, (m10Look w x).2) else (bif (x.phase == 1) then ((m10Look w x).1, (m10Look w x).2) else (bif (x.phase == 3) then ((m10Look w x).1, (m10Look w x).2) else (bif (x.phase == 2) then ((m10Unlink w x).1, (m10Unlink w x).2) else (bif (x.phase == 4) then ((m08Link w x.curr x.next (pMark x.next)).1, ⟨x.key, x.mode, 1, x.pred, x.curr, x.next, x.seen, x.found, x.stop, x.done⟩) else (bif (x.phase == 5) then (bif ((m08Word w x.seen).2 != 1) then ((m08Word w x.seen).1, ⟨x.key, x.mode, 6, x.pred, x.curr, x.next, (-1), x.found, x.stop, x.done⟩) else ((m08Word w x.seen).1, ⟨x.key, x.mode, 7, x.pred, x.curr, x.next, x.seen, x.found, x.stop, x.done⟩)) else (bif (x.phase == 6) then ((m08Turn w (carF w.b x.curr) 0 1).1, ⟨x.key, x.mode, 3, x.pred, x.curr, x.next, x.seen, x.found, x.stop, x.done⟩) else (bif (x.phase == 7) then ((m08Turn w (carF w.b x.curr) 0 2).1, ⟨x.key, x.mode, 3, x.pred, x.curr, x.next, x.seen, x.found, x.stop, x.done⟩) else (w, ⟨x.key, x.mode, x.phase, x.pred, x.curr, x.next, x.seen, x.found, x.stop, true⟩))))))))))
theorem k10_Step (w : RW) (rw : RX) (x : WalkR) (W : World) (hW : WAt W w rw) : Calls Try.prog 75 #[.agg (encW w rw).toArray, .agg (encWalk x).toArray] W (fun e W' => ∃ r0 : RX, e = .returned (.tuple #[.agg (encW ((m10Step w x).1) r0).toArray, .agg (encWalk (m10Step w x).2).toArray]) ∧ WAt W' (m10Step w x).1 r0 ∧ FreshIn [wRep w rw] W (wRep (m10Step w x).1 r0) ∧ Below W.heap.size W W') := by
 refine rf_enter (args := [.agg (encW w rw).toArray, .agg (encWalk x).toArray]) [wRep w rw] Try.func75 rfl (by intro r hr; obtain rfl := List.mem_singleton.mp hr; exact hW) ?_
 refine rX 13 ?_
 refine qI x.done (fun h1 => ?_) (fun h1 => ?_)
 ·refine rZ 1 ?_
  refine qD k10_Step.T2 [0, 0, 1, 7] [] [0, 1] [] ?_
  refine rO [0, 1, 2, 3] ?_
  refine rZ 7 ?_
  obtain ⟨m_, hq_, hm_⟩ := nm (m10Step w x)
  unfold m10Step at hm_
  simp only [bT h1] at hm_
  refine qR [.agg (encW m_.1 rw).toArray, .agg (encWalk m_.2).toArray] (fun W1_ hT_ hR_ hF_ => ?_) (h := by rewrite [← hm_]; kernel_rfl)
  rw [hq_, ← hm_]
  exact ⟨_, rfl, (wget hR_ 0 rfl), (fun k_ => (fun h_ => hF_ _ (mG 0 rfl) k_ h_)), hT_.below⟩
 ·refine rZ 7 ?_
  refine qV [.agg (encB w.b rw.r).toArray, .int .i64 x.curr] (fun W_ hT_ hR_ => c07_Carried w.b rw.r x.curr _ (wget hR_ 0 rfl).b) ?_
  refine rZ 15 ?_
  refine qI (x.phase == 0) (fun h2 => ?_) (fun h2 => ?_)
  ·refine rZ 1 ?_
   refine qI (x.phase == 0) (fun hx_ => ?_) (fun hx_ => by rw [h2] at hx_; cases hx_)
   clear hx_
   refine rZ 4 ?_
   refine qC [.agg (encW w rw).toArray, .agg (encWalk x).toArray] fun W_ hT_ hR_ => (k10_look _ _ _ _ (wget hR_ 0 rfl)).mono ?_
   rintro e_ W1_ ⟨rx4_, rfl, hw4_, hf4_, hb_⟩
   refine ⟨_, [wRep ((m10Look w x).1) rx4_], rfl, hb_, (NewOk.cons hw4_ (hf4_.one (fun k_ => (fun h_ => ⟨_, mG 0 rfl, h_⟩))) NewOk.nil), ?_⟩
   refine rZ 5 ?_
   obtain ⟨m_, hq_, hm_⟩ := nm (m10Step w x)
   unfold m10Step at hm_
   simp only [bF h1, bT h2] at hm_
   refine qR [.agg (encW m_.1 rx4_).toArray, .agg (encWalk m_.2).toArray] (fun W1_ hT_ hR_ hF_ => ?_) (h := by rewrite [← hm_]; kernel_rfl)
   rw [hq_, ← hm_]
   exact ⟨_, rfl, (wget hR_ 0 rfl), (fun k_ => (fun h_ => hF_ _ (mG 0 rfl) k_ h_)), hT_.below⟩
  ·refine rZ 5 ?_
   refine qI (x.phase == 1) (fun h5 => ?_) (fun h5 => ?_)
   ·refine rZ 1 ?_
    refine qI (x.phase == 1) (fun hx_ => ?_) (fun hx_ => by rw [h5] at hx_; cases hx_)
    clear hx_
    refine rZ 4 ?_
    refine qC [.agg (encW w rw).toArray, .agg (encWalk x).toArray] fun W_ hT_ hR_ => (k10_look _ _ _ _ (wget hR_ 0 rfl)).mono ?_
    rintro e_ W1_ ⟨rx7_, rfl, hw7_, hf7_, hb_⟩
    refine ⟨_, [wRep ((m10Look w x).1) rx7_], rfl, hb_, (NewOk.cons hw7_ (hf7_.one (fun k_ => (fun h_ => ⟨_, mG 0 rfl, h_⟩))) NewOk.nil), ?_⟩
    refine rZ 5 ?_
    obtain ⟨m_, hq_, hm_⟩ := nm (m10Step w x)
    unfold m10Step at hm_
    simp only [bF h1, bF h2, bT h5] at hm_
    refine qR [.agg (encW m_.1 rx7_).toArray, .agg (encWalk m_.2).toArray] (fun W1_ hT_ hR_ hF_ => ?_) (h := by rewrite [← hm_]; kernel_rfl)
    rw [hq_, ← hm_]
    exact ⟨_, rfl, (wget hR_ 0 rfl), (fun k_ => (fun h_ => hF_ _ (mG 0 rfl) k_ h_)), hT_.below⟩
   ·refine rZ 4 ?_
    refine qI (x.phase == 3) (fun h8 => ?_) (fun h8 => ?_)
    ·refine rZ 4 ?_
     refine qC [.agg (encW w rw).toArray, .agg (encWalk x).toArray] fun W_ hT_ hR_ => (k10_look _ _ _ _ (wget hR_ 0 rfl)).mono ?_
     rintro e_ W1_ ⟨rx9_, rfl, hw9_, hf9_, hb_⟩
     refine ⟨_, [wRep ((m10Look w x).1) rx9_], rfl, hb_, (NewOk.cons hw9_ (hf9_.one (fun k_ => (fun h_ => ⟨_, mG 0 rfl, h_⟩))) NewOk.nil), ?_⟩
     refine rZ 5 ?_
     obtain ⟨m_, hq_, hm_⟩ := nm (m10Step w x)
     unfold m10Step at hm_
     simp only [bF h1, bF h2, bF h5, bT h8] at hm_
     refine qR [.agg (encW m_.1 rx9_).toArray, .agg (encWalk m_.2).toArray] (fun W1_ hT_ hR_ hF_ => ?_) (h := by rewrite [← hm_]; kernel_rfl)
     rw [hq_, ← hm_]
     exact ⟨_, rfl, (wget hR_ 0 rfl), (fun k_ => (fun h_ => hF_ _ (mG 0 rfl) k_ h_)), hT_.below⟩
    ·refine rZ 5 ?_
     refine qI (x.phase == 2) (fun h10 => ?_) (fun h10 => ?_)
     ·refine rZ 4 ?_
      refine qC [.agg (encW w rw).toArray, .agg (encWalk x).toArray] fun W_ hT_ hR_ => (k10_unlink _ _ _ _ (wget hR_ 0 rfl)).mono ?_
      rintro e_ W1_ ⟨rx11_, rfl, hw11_, hf11_, hb_⟩
      refine ⟨_, [wRep ((m10Unlink w x).1) rx11_], rfl, hb_, (NewOk.cons hw11_ (hf11_.one (fun k_ => (fun h_ => ⟨_, mG 0 rfl, h_⟩))) NewOk.nil), ?_⟩
      refine rZ 5 ?_
      obtain ⟨m_, hq_, hm_⟩ := nm (m10Step w x)
      unfold m10Step at hm_
      simp only [bF h1, bF h2, bF h5, bF h8, bT h10] at hm_
      refine qR [.agg (encW m_.1 rx11_).toArray, .agg (encWalk m_.2).toArray] (fun W1_ hT_ hR_ hF_ => ?_) (h := by rewrite [← hm_]; kernel_rfl)
      rw [hq_, ← hm_]
      exact ⟨_, rfl, (wget hR_ 0 rfl), (fun k_ => (fun h_ => hF_ _ (mG 0 rfl) k_ h_)), hT_.below⟩
     ·refine rZ 5 ?_
      refine qI (x.phase == 4) (fun h12 => ?_) (fun h12 => ?_)
      ·refine rZ 1 ?_
       refine qK (k10_Step.c1 w rw x) (k10_Step.r1 w rw x) (fun _ => True) ?_ ?_
       ·refine qD k10_Step.T12 [0, 0, 2, 0, 8, 0, 32, 96, 255, 511, 1023, 1023, 0, 6143, 16383] [13] [0, 1] [] ?_
        refine rO [0, 1, 2, 3, 4, 5, 6] ?_
        refine rZ 7 ?_
        refine qF 7 12 ?_ ?_
        ·refine rO [] ?_
         refine qV [.int .u64 x.next] (fun W_ hT_ hR_ => c01_Mark x.next _) ?_
         refine qF 8 12 ?_ ?_
         ·refine rO [9, 10, 11, 12, 13, 14] ?_
          refine qC [.agg (encW w rw).toArray, .int .i64 x.curr, .int .u64 x.next, .int .u64 (pMark x.next)] fun W_ hT_ hR_ => (k08_Link _ _ _ _ _ _ (wget hR_ 0 rfl)).mono ?_
          rintro e_ W1_ ⟨rx13_, rfl, hw13_, hf13_, hb_⟩
          refine ⟨_, [wRep ((m08Link w x.curr x.next (pMark x.next)).1) rx13_], rfl, hb_, (NewOk.cons hw13_ (hf13_.one (fun k_ => (fun h_ => ⟨_, mG 0 rfl, h_⟩))) NewOk.nil), ?_⟩
          refine rZ 9 ?_
          exact qJ (k10_Step.c1 w rw x) (k10_Step.r1 w rw x) (fun _ => True) rx13_ trivial (by simp [k10_Step.r1])
         ·refine rO [8, 9, 10, 11, 13, 14] ?_
          refine rZ 2 ?_
          refine qC [.agg (encW w rw).toArray, .int .i64 x.curr, .int .u64 x.next, .int .u64 (pMark x.next)] fun W_ hT_ hR_ => (k08_Link _ _ _ _ _ _ (wget hR_ 0 rfl)).mono ?_
          rintro e_ W1_ ⟨rx14_, rfl, hw14_, hf14_, hb_⟩
          refine ⟨_, [wRep ((m08Link w x.curr x.next (pMark x.next)).1) rx14_], rfl, hb_, (NewOk.cons hw14_ (hf14_.one (fun k_ => (fun h_ => ⟨_, mG 0 rfl, h_⟩))) NewOk.nil), ?_⟩
          refine rZ 7 ?_
          exact qJ (k10_Step.c1 w rw x) (k10_Step.r1 w rw x) (fun _ => True) rx14_ trivial (by simp [k10_Step.r1])
        ·refine rO [7, 8, 9, 10, 11, 13, 14] ?_
         refine rZ 2 ?_
         refine qV [.int .u64 x.next] (fun W_ hT_ hR_ => c01_Mark x.next _) ?_
         refine rZ 1 ?_
         refine qC [.agg (encW w rw).toArray, .int .i64 x.curr, .int .u64 x.next, .int .u64 (pMark x.next)] fun W_ hT_ hR_ => (k08_Link _ _ _ _ _ _ (wget hR_ 0 rfl)).mono ?_
         rintro e_ W1_ ⟨rx15_, rfl, hw15_, hf15_, hb_⟩
         refine ⟨_, [wRep ((m08Link w x.curr x.next (pMark x.next)).1) rx15_], rfl, hb_, (NewOk.cons hw15_ (hf15_.one (fun k_ => (fun h_ => ⟨_, mG 0 rfl, h_⟩))) NewOk.nil), ?_⟩
         refine rZ 7 ?_
         exact qJ (k10_Step.c1 w rw x) (k10_Step.r1 w rw x) (fun _ => True) rx15_ trivial (by simp [k10_Step.r1])
       ·rintro rx13_ -
        refine rZ 6 ?_
        refine qD k10_Step.T14 [0, 0, 1, 7] [] [4, 1] [] ?_
        refine rO [0, 1, 2, 3] ?_
        refine rZ 7 ?_
        obtain ⟨m_, hq_, hm_⟩ := nm (m10Step w x)
        unfold m10Step at hm_
        simp only [bF h1, bF h2, bF h5, bF h8, bF h10, bT h12] at hm_
        refine qR [.agg (encW m_.1 rx13_).toArray, .agg (encWalk m_.2).toArray] (fun W1_ hT_ hR_ hF_ => ?_) (h := by rewrite [← hm_]; kernel_rfl)
        rw [hq_, ← hm_]
        exact ⟨_, rfl, (wget hR_ 0 rfl), (fun k_ => (fun h_ => hF_ _ (mG 0 rfl) k_ h_)), hT_.below⟩
      ·refine rZ 5 ?_
       refine qI (x.phase == 5) (fun h16 => ?_) (fun h16 => ?_)
       ·refine rZ 5 ?_
        refine qC [.agg (encW w rw).toArray, .int .i64 x.seen] fun W_ hT_ hR_ => (k08_Word _ _ _ _ (wget hR_ 0 rfl)).mono ?_
        rintro e_ W1_ ⟨rx17_, rfl, hw17_, hf17_, hb_⟩
        refine ⟨_, [wRep ((m08Word w x.seen).1) rx17_], rfl, hb_, (NewOk.cons hw17_ (hf17_.one (fun k_ => (fun h_ => ⟨_, mG 0 rfl, h_⟩))) NewOk.nil), ?_⟩
        refine rZ 18 ?_
        refine qI ((m08Word w x.seen).2 != 1) (fun h18 => ?_) (fun h18 => ?_)
        ·refine rZ 10 ?_
         refine qD k10_Step.T21 [0, 0, 1, 7] [] [4, 1] [] ?_
         refine rO [0, 1, 2, 3] ?_
         refine rZ 7 ?_
         obtain ⟨m_, hq_, hm_⟩ := nm (m10Step w x)
         unfold m10Step at hm_
         simp only [bF h1, bF h2, bF h5, bF h8, bF h10, bF h12, bT h16, bT h18] at hm_
         refine qR [.agg (encW m_.1 rx17_).toArray, .agg (encWalk m_.2).toArray] (fun W1_ hT_ hR_ hF_ => ?_) (h := by rewrite [← hm_]; kernel_rfl)
         rw [hq_, ← hm_]
         exact ⟨_, rfl, (wget hR_ 0 rfl), (fun k_ => (fun h_ => hF_ _ (mG 0 rfl) k_ h_)), hT_.below⟩
        ·refine rZ 2 ?_
         refine qD k10_Step.T21 [0, 0, 1, 7] [] [4, 1] [] ?_
         refine rO [0, 1, 2, 3] ?_
         refine rZ 7 ?_
         obtain ⟨m_, hq_, hm_⟩ := nm (m10Step w x)
         unfold m10Step at hm_
         simp only [bF h1, bF h2, bF h5, bF h8, bF h10, bF h12, bT h16, bF h18] at hm_
         refine qR [.agg (encW m_.1 rx17_).toArray, .agg (encWalk m_.2).toArray] (fun W1_ hT_ hR_ hF_ => ?_) (h := by rewrite [← hm_]; kernel_rfl)
         rw [hq_, ← hm_]
         exact ⟨_, rfl, (wget hR_ 0 rfl), (fun k_ => (fun h_ => hF_ _ (mG 0 rfl) k_ h_)), hT_.below⟩
       ·refine rZ 5 ?_
        refine qI (x.phase == 6) (fun h19 => ?_) (fun h19 => ?_)
        ·refine rZ 4 ?_
         refine qC [.agg (encW w rw).toArray, .int .i64 (carF w.b x.curr), .int .u64 0, .int .u64 1] fun W_ hT_ hR_ => (k08_Turn _ _ _ _ _ _ (wget hR_ 0 rfl)).mono ?_
         rintro e_ W1_ ⟨rx20_, rfl, hw20_, hf20_, hb_⟩
         refine ⟨_, [wRep ((m08Turn w (carF w.b x.curr) 0 1).1) rx20_], rfl, hb_, (NewOk.cons hw20_ (hf20_.one (fun k_ => (fun h_ => ⟨_, mG 0 rfl, h_⟩))) NewOk.nil), ?_⟩
         refine rZ 13 ?_
         refine qD k10_Step.T25 [0, 0, 1, 7] [] [4, 1] [] ?_
         refine rO [0, 1, 2, 3] ?_
         refine rZ 7 ?_
         obtain ⟨m_, hq_, hm_⟩ := nm (m10Step w x)
         unfold m10Step at hm_
         simp only [bF h1, bF h2, bF h5, bF h8, bF h10, bF h12, bF h16, bT h19] at hm_
         refine qR [.agg (encW m_.1 rx20_).toArray, .agg (encWalk m_.2).toArray] (fun W1_ hT_ hR_ hF_ => ?_) (h := by rewrite [← hm_]; kernel_rfl)
         rw [hq_, ← hm_]
         exact ⟨_, rfl, (wget hR_ 0 rfl), (fun k_ => (fun h_ => hF_ _ (mG 0 rfl) k_ h_)), hT_.below⟩
        ·refine rZ 5 ?_
         refine qI (x.phase == 7) (fun h21 => ?_) (fun h21 => ?_)
         ·refine rZ 4 ?_
          refine qC [.agg (encW w rw).toArray, .int .i64 (carF w.b x.curr), .int .u64 0, .int .u64 2] fun W_ hT_ hR_ => (k08_Turn _ _ _ _ _ _ (wget hR_ 0 rfl)).mono ?_
          rintro e_ W1_ ⟨rx22_, rfl, hw22_, hf22_, hb_⟩
          refine ⟨_, [wRep ((m08Turn w (carF w.b x.curr) 0 2).1) rx22_], rfl, hb_, (NewOk.cons hw22_ (hf22_.one (fun k_ => (fun h_ => ⟨_, mG 0 rfl, h_⟩))) NewOk.nil), ?_⟩
          refine rZ 13 ?_
          refine qD k10_Step.T29 [0, 0, 1, 7] [] [4, 1] [] ?_
          refine rO [0, 1, 2, 3] ?_
          refine rZ 7 ?_
          obtain ⟨m_, hq_, hm_⟩ := nm (m10Step w x)
          unfold m10Step at hm_
          simp only [bF h1, bF h2, bF h5, bF h8, bF h10, bF h12, bF h16, bF h19, bT h21] at hm_
          refine qR [.agg (encW m_.1 rx22_).toArray, .agg (encWalk m_.2).toArray] (fun W1_ hT_ hR_ hF_ => ?_) (h := by rewrite [← hm_]; kernel_rfl)
          rw [hq_, ← hm_]
          exact ⟨_, rfl, (wget hR_ 0 rfl), (fun k_ => (fun h_ => hF_ _ (mG 0 rfl) k_ h_)), hT_.below⟩
         ·refine rZ 8 ?_
          refine qD k10_Step.T31 [0, 0, 1, 7] [] [0, 1] [] ?_
          refine rO [0, 1, 2, 3] ?_
          refine rZ 7 ?_
          obtain ⟨m_, hq_, hm_⟩ := nm (m10Step w x)
          unfold m10Step at hm_
          simp only [bF h1, bF h2, bF h5, bF h8, bF h10, bF h12, bF h16, bF h19, bF h21] at hm_
          refine qR [.agg (encW m_.1 rw).toArray, .agg (encWalk m_.2).toArray] (fun W1_ hT_ hR_ hF_ => ?_) (h := by rewrite [← hm_]; kernel_rfl)
          rw [hq_, ← hm_]
          exact ⟨_, rfl, (wget hR_ 0 rfl), (fun k_ => (fun h_ => hF_ _ (mG 0 rfl) k_ h_)), hT_.below⟩
end Go.Proofs.Ytbhakljebcmocaa.PBoundKeeps
end
section
namespace Go.Proofs.Ytbhakljebcmocaa.PBoundKeeps
open Go.RowKit Go.Proofs.YtbhakljebcmocaaW.PrintWords Go.Proofs.YtbhakljebcmocaaW.PrintLast Go.Proofs.YtbhakljebcmocaaW.PrintMore
set_option linter.unusedVariables false
set_option maxHeartbeats 1000000
set_option maxRecDepth 100000
set_option linter.unusedSimpArgs false
def m07More (l : (List Int)) (i : Int) : List Int := (l.set i.toNat (IntKind.i64.wrap ((l.getD i.toNat 0) + 1)))
theorem k07_more (l : (List Int)) (rl : IX) (i : Int) (hi : 0 ≤ i ∧ i < (l.length : Int)) (W : World) (hW : IAt W l rl) : Calls Try.prog 53 #[.slice rl.A l.length rl.C, .int .i64 i] W (fun e W' => ∃ r0 : IX, e = .returned (.slice r0.A (m07More l i).length r0.C) ∧ IAt W' (m07More l i) r0 ∧ FreshIn [iRep l rl] W (iRep (m07More l i) r0) ∧ Below W.heap.size W W') := by
 refine rf_enter (args := [.slice rl.A l.length rl.C, .int .i64 i]) [iRep l rl] Try.func53 rfl (by intro r hr; obtain rfl := List.mem_singleton.mp hr; exact hW) ?_
 refine rX 8 ?_
 refine rK (p := l.length ≤ 1000000) (fun W_ hR_ => (iget hR_ 0 rfl).s) (fun hs1_ => ?_)
 refine qA (t := 25) (e := 3) (size := 1) (by_ := 8) (i := 0) (n := 0) (c := 0) (x := .v (.slice rl.A l.length rl.C)) (enc := iE) (sp := []) true [] l l iE_len iE_one rfl (by rfl) (Nat.le_refl _) (Nat.zero_le _) (by simp only [List.length_nil]; omega) rfl (fun γ_ W_ hk_ hB_ => by have hR_ : RepAt _ W_ := hB_.rep; exact news_row (iget hR_ 0 rfl).m (row_none (iget hR_ 0 rfl).m iE_len (by decide))) (fun c1_ sp1_ hall1_ hle1_ hmx1_ => ?_)
 refine rZ 8 ?_
 refine qY (t := 25) (e := 3) (s := 1) (b := 8) (j := 1) (n := l.length) (c := c1_) (k := .i64) (i := i) (by have p0_ := hi; omega) (by have p0_ := hi; omega) ?_
 refine qO (t := 3) (k := 1) (j := 1) (of := (Int.toNat i * 1)) (b := ⟨true, 3, (List.flatMap iE l ++ sp1_).map .v⟩) (.v (.int .i64 (l.getD i.toNat 0))) (own1' iE_len (o := 0) (d := 0) (by decide) (by have p0_ := hi; omega) (.int .i64 (l.getD i.toNat 0)) (by kernel_rfl) (Nat.add_zero _).symm) trivial ?_
 refine rZ 1 ?_
 refine qY (t := 25) (e := 3) (s := 1) (b := 8) (j := 1) (n := l.length) (c := c1_) (k := .i64) (i := i) (by have p0_ := hi; omega) (by have p0_ := hi; omega) ?_
 refine qW (t := 3) (k := 1) (j := 1) (of := (Int.toNat i * 1)) (e := 3) (ag := false) (x := .v (.int .i64 (IntKind.i64.wrap ((l.getD i.toNat 0) + 1)))) (cs := (List.flatMap iE l ++ sp1_).map .v) true ((List.flatMap iE (l.set i.toNat (IntKind.i64.wrap ((l.getD i.toNat 0) + 1))) ++ sp1_).map .v) (ownIn' iE_len (o := 0) (k := 1) (by decide) (by (try simp only [List.length_set]); have p0_ := hi; omega) (Nat.add_zero _).symm) (ownPut' iE_len (o := 0) (k := 1) (d := 0) ([.int .i64 (IntKind.i64.wrap ((l.getD i.toNat 0) + 1))]) (by kernel_rfl) (by decide) (by (try simp only [List.length_set]); have p0_ := hi; omega) (IntKind.i64.wrap ((l.getD i.toNat 0) + 1)) (by kernel_rfl) rfl (Nat.add_zero _).symm (by kernel_rfl)) ?_
 refine qP 8 (.sl 1 (l.set i.toNat (IntKind.i64.wrap ((l.getD i.toNat 0) + 1))).length c1_) (by rw [List.length_set]) ?_
 refine qP 5 (.sl 1 (l.set i.toNat (IntKind.i64.wrap ((l.getD i.toNat 0) + 1))).length c1_) (by rw [List.length_set]) ?_
 refine rZ 6 ?_
 refine qG 1 [] 3 (List.flatMap iE (l.set i.toNat (IntKind.i64.wrap ((l.getD i.toNat 0) + 1))) ++ sp1_) (fun g2_ => ?_)
 obtain ⟨m_, hq_, hm_⟩ := nm (m07More l i)
 unfold m07More at hm_
 refine qR [.slice (IX.mk (some ⟨g2_, 0, none⟩) c1_).A m_.length (IX.mk (some ⟨g2_, 0, none⟩) c1_).C] (fun W1_ hT_ hR_ hF_ => ?_) (h := by rewrite [← hm_]; kernel_rfl)
 rw [hq_, ← hm_]
 exact ⟨_, rfl, ⟨(row_blk (hR_.get 0 rfl)), (by rw [List.length_set]; exact hle1_), (by rw [List.length_set]; exact hs1_)⟩, (fun k_ => (fun h_ => hF_ _ (mG 0 rfl) k_ (rowBl_blk h_))), hT_.below⟩
def m07Make (b : RB) (n : Int) (k : Int) : RB × Int × Int := (bif (!(isF b n)) then (b, 0, 1) else (bif (decide ((pFind b k) < 0)) then (b, 0, 1) else (bif ((b.made.getD n.toNat 0) == (IntKind.i64.wrap (2 * b.c.f4))) then (b, 0, 3) else ((RB.mk b.c b.calls b.ins (m07More b.made n) b.ops (b.nodes ++ [⟨(lNode b.c n (b.made.getD n.toNat 0)), k⟩])), (lNode b.c n (b.made.getD n.toNat 0)), 0))))
theorem more_eq (l : List Int) (n : Int) (hb : 0 ≤ l.getD n.toNat 0 ∧ l.getD n.toNat 0 ≤ 100000) : m07More l n = l.set n.toNat (l.getD n.toNat 0 + 1) := by
 unfold m07More
 rw [show IntKind.i64.wrap (l.getD n.toNat 0 + 1) = l.getD n.toNat 0 + 1 from w64 (by omega) (by omega)]
theorem m07Make_eq {b : RB} (h : Inv b) (n k : Int) : m07Make b n k = mkR b n k := by
 unfold m07Make mkR
 rw [pFind_eq h]
 have hs := h.small
 by_cases h1 : 0 ≤ n ∧ n < (b.calls.length : Int)
 ·have e1 : isF b n = true := by unfold isF; simpa using h1
  rw [e1]
  cases h2 : (fOp b.ops k).isSome
  ·rw [if_neg (fun q => by cases q.2.2)]
   rfl
  ·rw [if_pos ⟨h1.1, h1.2, rfl⟩]
   have hm := h.hm n.toNat (by omega)
   rw [show IntKind.i64.wrap (2 * b.c.f4) = 2 * b.c.f4 from w64 (by omega) (by omega), more_eq b.made n (by omega)]
   by_cases h3 : b.made.getD n.toNat 0 = 2 * b.c.f4
   ·rw [if_pos h3, h3]
    simp
   ·rw [if_neg h3]
    have e3 : (b.made.getD n.toNat 0 == 2 * b.c.f4) = false := by simpa using h3
    rw [e3]
    have hl := h.lc
    have e4 : lNode b.c n (b.made.getD n.toNat 0) = ndNo b.c n (b.made.getD n.toNat 0) := by
     unfold lNode ndNo
     rw [if_pos ⟨h.ok, ⟨h1.1, by omega⟩, hm.1, by omega⟩]
    rw [e4]
    rfl
 ·have e1 : isF b n = false := by unfold isF; simpa using h1
  rw [e1, if_neg (fun q => h1 ⟨q.1, q.2.1⟩)]
  rfl
theorem inv_m07Make {b : RB} (h : Inv b) (n k : Int) : Inv (m07Make b n k).1 := by
 rw [m07Make_eq h]
 exact h.mkd n k
theorem k07_Make (b : RB) (rb : RA) (n : Int) (k : Int) (W : World) (hW : BAt W b rb) : Calls Try.prog 89 #[.agg (encB b rb).toArray, .int .i64 n, .int .i64 k] W (fun e W' => ∃ r0 : RA, e = .returned (.tuple #[.agg (encB ((m07Make b n k).1) r0).toArray, .int .i64 (m07Make b n k).2.1, .int .i64 (m07Make b n k).2.2]) ∧ BAt W' (m07Make b n k).1 r0 ∧ FreshIn [bRep b rb] W (bRep (m07Make b n k).1 r0) ∧ Below W.heap.size W W') := by
 refine rf_enter (args := [.agg (encB b rb).toArray, .int .i64 n, .int .i64 k]) [bRep b rb] Try.func89 rfl (by intro r hr; obtain rfl := List.mem_singleton.mp hr; exact hW) ?_
 refine rX 12 ?_
 refine qV [.agg (encB b rb).toArray, .int .i64 n] (fun W_ hT_ hR_ => c07_is b rb n _ (bget hR_ 0 rfl)) ?_
 refine rZ 2 ?_
 refine qS 15 (!(isF b n)) (fun h1 => ?_) (fun h1 => ?_)
 ·refine rZ 14 ?_
  obtain ⟨m_, hq_, hm_⟩ := nm (m07Make b n k)
  have h0_ := hm_
  unfold m07Make at hm_
  simp only [bT h1] at hm_
  refine qR [.agg (encB m_.1 rb).toArray, .int .i64 m_.2.1, .int .i64 m_.2.2] (fun W1_ hT_ hR_ hF_ => ?_) (h := by rewrite [← hm_]; kernel_rfl)
  rw [hq_, ← hm_]
  exact ⟨_, rfl, (bget hR_ 0 rfl), (fun k_ => (fun h_ => hF_ _ (mG 0 rfl) k_ h_)), hT_.below⟩
 ·refine rZ 2 ?_
  refine qV [.agg (encB b rb).toArray, .int .i64 k] (fun W_ hT_ hR_ => c07_find b rb k _ (bget hR_ 0 rfl)) ?_
  refine rZ 3 ?_
  refine qI (decide ((pFind b k) < 0)) (fun h2 => ?_) (fun h2 => ?_)
  ·refine rZ 7 ?_
   obtain ⟨m_, hq_, hm_⟩ := nm (m07Make b n k)
   have h0_ := hm_
   unfold m07Make at hm_
   simp only [bF h1, bT h2] at hm_
   refine qR [.agg (encB m_.1 rb).toArray, .int .i64 m_.2.1, .int .i64 m_.2.2] (fun W1_ hT_ hR_ hF_ => ?_) (h := by rewrite [← hm_]; kernel_rfl)
   rw [hq_, ← hm_]
   exact ⟨_, rfl, (bget hR_ 0 rfl), (fun k_ => (fun h_ => hF_ _ (mG 0 rfl) k_ h_)), hT_.below⟩
  ·refine rZ 6 ?_
   refine rK (p := ∃ ad, rb.a7 = some ad) (fun W_ hR_ => row_some (bget hR_ 0 rfl).m7 (by rw [flat_len iE_len]; exact Nat.mul_pos (by have b0_ := isF_of h1; have b1_ := oF h2; have p0_ := hW.i.lm; have p1_ := hW.i.li; have p2_ := hW.i.small; omega) (by decide))) ?_
   rintro ⟨ad3_, had3_⟩
   refine qX (t := 25) (e := 3) (s := 1) (b := 8) (A := rb.a7) (n := b.made.length) (c := rb.c7) (k := .i64) (i := n) ad3_ had3_ (by have b0_ := isF_of h1; have b1_ := oF h2; have p0_ := hW.i.lm; have p1_ := hW.i.li; have p2_ := hW.i.small; omega) (by have b0_ := isF_of h1; have b1_ := oF h2; have p0_ := hW.i.lm; have p1_ := hW.i.li; have p2_ := hW.i.small; omega) ?_
   refine qL (t := 3) (p := .pointer (some (ad3_.add (Int.toNat n * 1)))) (v := .int .i64 (b.made.getD n.toNat 0)) [bRep b rb] (fun w_ hR_ => by exact row1' te_ok (sz := 1) (d := 0) rfl (by rw [← had3_]; exact (bget hR_ 0 rfl).m7) iE_len (o := 0) (by decide) (by have b0_ := isF_of h1; have b1_ := oF h2; have p0_ := hW.i.lm; have p1_ := hW.i.li; have p2_ := hW.i.small; omega) (.int .i64 (b.made.getD n.toNat 0)) (by kernel_rfl) (Nat.add_zero _).symm) ?_
   refine rZ 12 ?_
   refine qI ((b.made.getD n.toNat 0) == (IntKind.i64.wrap (2 * b.c.f4))) (fun h4 => ?_) (fun h4 => ?_)
   ·refine rZ 7 ?_
    obtain ⟨m_, hq_, hm_⟩ := nm (m07Make b n k)
    have h0_ := hm_
    unfold m07Make at hm_
    simp only [bF h1, bF h2, bT h4] at hm_
    refine qR [.agg (encB m_.1 rb).toArray, .int .i64 m_.2.1, .int .i64 m_.2.2] (fun W1_ hT_ hR_ hF_ => ?_) (h := by rewrite [← hm_]; kernel_rfl)
    rw [hq_, ← hm_]
    exact ⟨_, rfl, (bget hR_ 0 rfl), (fun k_ => (fun h_ => hF_ _ (mG 0 rfl) k_ h_)), hT_.below⟩
   ·refine rZ 7 ?_
    refine qV [.agg (encC b.c).toArray, .int .i64 n, .int .i64 (b.made.getD n.toNat 0)] (fun W_ hT_ hR_ => c05_Node b.c n (b.made.getD n.toNat 0) _) ?_
    refine rZ 7 ?_
    refine qC [.slice rb.a7 b.made.length rb.c7, .int .i64 n] fun W_ hT_ hR_ => (k07_more b.made (IX.mk rb.a7 rb.c7) n (by have b0_ := isF_of h1; have b1_ := oF h2; have b2_ := beq_ne h4; have p0_ := hW.i.lm; have p1_ := hW.i.li; have p2_ := hW.i.small; omega) _ ⟨(bget hR_ 0 rfl).m7, (bget hR_ 0 rfl).l7, (bget hR_ 0 rfl).i.big.2.2.1⟩).mono ?_
    rintro e_ W1_ ⟨rx5_, rfl, hw5_, hf5_, hb_⟩
    refine ⟨_, [iRep (m07More b.made n) rx5_], rfl, hb_, (NewOk.cons hw5_ (hf5_.one (fun k_ => (fun h_ => ⟨_, mG 0 rfl, (.inr (.inr (.inl h_)))⟩))) NewOk.nil), ?_⟩
    refine rZ 8 ?_
    refine rK (p := b.nodes.length ≤ 1000000) (fun W_ hR_ => (bget hR_ 1 rfl).i.big.2.2.2.2) (fun hs6_ => ?_)
    refine qA (t := 33) (e := 125) (size := 2) (by_ := 16) (i := 2) (n := 0) (c := 0) (x := .v (.slice rb.a9 b.nodes.length rb.c9)) (enc := ndE) (sp := []) true [] b.nodes b.nodes ndE_len ndE_one rfl (by rfl) (Nat.le_refl _) (Nat.zero_le _) (by simp only [List.length_nil]; omega) rfl (fun γ_ W_ hk_ hB_ => by have hR_ : RepAt _ W_ := hB_.rep; exact news_row (bget hR_ 1 rfl).m9 (row_none (bget hR_ 1 rfl).m9 ndE_len (by decide))) (fun c6_ sp6_ hall6_ hle6_ hmx6_ => ?_)
    refine rZ 4 ?_
    refine qA (t := 33) (e := 125) (size := 2) (by_ := 16) (i := 3) (n := b.nodes.length) (c := c6_) (x := .sl 4 1 1) (enc := ndE) (sp := sp6_) true b.nodes [⟨(lNode b.c n (b.made.getD n.toNat 0)), k⟩] (b.nodes ++ [⟨(lNode b.c n (b.made.getD n.toNat 0)), k⟩]) ndE_len ndE_one rfl hall6_ hle6_ hmx6_ (by simp only [List.length_cons, List.length_nil]; have b0_ := isF_of h1; have b1_ := oF h2; have b2_ := beq_ne h4; have p0_ := hW.i.lm; have p1_ := hW.i.li; have p2_ := hW.i.small; omega) rfl (fun γ_ W_ hk_ hB_ => news_own hB_ (b := ⟨true, 125, [.v (.int .i64 (lNode b.c n (b.made.getD n.toNat 0))), .v (.int .i64 k)]⟩) (by kernel_rfl) rfl) (fun c7_ sp7_ hall7_ hle7_ hmx7_ => ?_)
    refine rZ 5 ?_
    refine qG 5 [0] 125 (List.flatMap ndE (b.nodes ++ [⟨(lNode b.c n (b.made.getD n.toNat 0)), k⟩]) ++ sp7_) (fun g8_ => ?_)
    refine rZ 6 ?_
    obtain ⟨m_, hq_, hm_⟩ := nm (m07Make b n k)
    have h0_ := hm_
    unfold m07Make at hm_
    simp only [bF h1, bF h2, bF h4] at hm_
    refine qR [.agg (encB m_.1 (RA.mk rb.a5 rb.a6 rx5_.A rb.a8 (some ⟨g8_, 0, none⟩) rb.c5 rb.c6 rx5_.C rb.c8 c7_)).toArray, .int .i64 m_.2.1, .int .i64 m_.2.2] (fun W1_ hT_ hR_ hF_ => ?_) (h := by rewrite [← hm_]; kernel_rfl)
    rw [hq_, ← hm_]
    exact ⟨_, rfl, ⟨(bget hR_ 2 rfl).m5, (bget hR_ 2 rfl).m6, (iget hR_ 1 rfl).m, (bget hR_ 2 rfl).m8, (row_blk (hR_.get 0 rfl)), (bget hR_ 2 rfl).l5, (bget hR_ 2 rfl).l6, (iget hR_ 1 rfl).l, (bget hR_ 2 rfl).l8, hle7_, (by have q_ := inv_m07Make hW.i n k; rw [h0_, ← hm_] at q_; exact q_)⟩, (fun k_ => (fun h_ => h_.elim (fun h_ => hF_ _ (mG 2 rfl) k_ (.inl h_)) (fun h_ => h_.elim (fun h_ => hF_ _ (mG 2 rfl) k_ (.inr (.inl h_))) (fun h_ => h_.elim (fun h_ => hF_ _ (mG 1 rfl) k_ h_) (fun h_ => h_.elim (fun h_ => hF_ _ (mG 2 rfl) k_ (.inr (.inr (.inr (.inl h_))))) (fun h_ => hF_ _ (mG 0 rfl) k_ (rowBl_blk h_))))))), hT_.below⟩
def k07_Begin.T7 : Bool × List (List Nat × List Nat) := (true, [([], []), ([0], [0]), ([1], [1]), ([2], [2]), ([3], [3]), ([4, 3], [3, 4]), ([3], [3]), ([5, 6, 3], [3, 5, 6]), ([7, 3], [3, 7]), ([3], [3]), ([9, 3], [3, 9]), ([10, 3], [3, 10]), ([8, 11, 3], [3, 8, 11]), ([3, 12], [3, 12])])
def k07_Begin.T12 : Bool × List (List Nat × List Nat) := (true, [([], []), ([], []), ([1], [1]), ([0, 2], [0, 2]), ([], []), ([], []), ([4, 5], [4, 5]), ([6], [6]), ([3, 7, 3], [3, 7]), ([0, 1, 2, 3, 4, 5, 6, 7, 8], []), ([9, 8, 8, 0, 1, 2, 3, 4, 5, 6, 7, 8], [8, 9])])
def m07Begin (b : RB) (n : Int) (x : S48) : RB × Int × Int := (bif (!(isF b n)) then (b, 0, 1) else (bif (decide (x.f0 < 1)) then (b, 0, 1) else (bif (decide (x.f0 > 4)) then (b, 0, 1) else (bif ((b.calls.getD n.toNat 0) == b.c.f4) then (b, 0, 2) else (bif (x.f0 == 1) then (bif ((b.ins.getD n.toNat 0) == b.c.f2) then ((RB.mk b.c (m07More b.calls n) b.ins b.made b.ops b.nodes), 0, 3) else ((RB.mk b.c (m07More b.calls n) (m07More b.ins n) b.made (b.ops ++ [⟨(lOp b.c n (b.calls.getD n.toNat 0)), x⟩]) b.nodes), (lOp b.c n (b.calls.getD n.toNat 0)), 0)) else ((RB.mk b.c (m07More b.calls n) b.ins b.made (b.ops ++ [⟨(lOp b.c n (b.calls.getD n.toNat 0)), x⟩]) b.nodes), (lOp b.c n (b.calls.getD n.toNat 0)), 0))))))
theorem m07Begin_eq {b : RB} (h : Inv b) (n : Int) (x : S48) : m07Begin b n x = begR b n x := by
 unfold m07Begin begR
 have hs := h.small
 by_cases h1 : 0 ≤ n ∧ n < (b.calls.length : Int)
 ·have e1 : isF b n = true := by unfold isF; simpa using h1
  rw [e1]
  by_cases h2 : x.f0 < 1
  ·rw [if_neg (fun q => by omega), decide_eq_true h2]
   rfl
  by_cases h3 : x.f0 > 4
  ·rw [if_neg (fun q => by omega), decide_eq_false h2, decide_eq_true h3]
   rfl
  rw [if_pos ⟨h1.1, h1.2, by omega, by omega⟩, decide_eq_false h2, decide_eq_false h3]
  have hc := h.hc n.toNat (by omega)
  have hi := h.hi n.toNat (by omega)
  have hl := h.lc
  rw [more_eq b.calls n (by omega), more_eq b.ins n (by omega)]
  by_cases h4 : b.calls.getD n.toNat 0 = b.c.f4
  ·rw [if_pos h4, h4]
   simp
  rw [if_neg h4]
  have e4 : (b.calls.getD n.toNat 0 == b.c.f4) = false := by simpa using h4
  have e5 : lOp b.c n (b.calls.getD n.toNat 0) = opNo b.c n (b.calls.getD n.toNat 0) := by
   unfold lOp opNo
   rw [if_pos ⟨h.ok, ⟨h1.1, by omega⟩, hc.1, by omega⟩]
  rw [e4, e5]
  by_cases h6 : x.f0 = 1
  ·rw [if_pos h6, show (x.f0 == 1) = true from by simpa using h6]
   by_cases h7 : b.ins.getD n.toNat 0 = b.c.f2
   ·rw [if_pos h7, show (b.ins.getD n.toNat 0 == b.c.f2) = true from by simpa using h7]
    rfl
   ·rw [if_neg h7, show (b.ins.getD n.toNat 0 == b.c.f2) = false from by simpa using h7]
    rfl
  ·rw [if_neg h6, show (x.f0 == 1) = false from by simpa using h6]
   rfl
 ·have e1 : isF b n = false := by unfold isF; simpa using h1
  rw [e1, if_neg (fun q => h1 ⟨q.1, q.2.1⟩)]
  rfl
theorem inv_m07Begin {b : RB} (h : Inv b) (n : Int) (x : S48) : Inv (m07Begin b n x).1 := by
 rw [m07Begin_eq h]
 exact h.beg n x
theorem k07_Begin (b : RB) (rb : RA) (n : Int) (x : S48) (W : World) (hW : BAt W b rb) : Calls Try.prog 39 #[.agg (encB b rb).toArray, .int .i64 n, .agg (encCall x).toArray] W (fun e W' => ∃ r0 : RA, e = .returned (.tuple #[.agg (encB ((m07Begin b n x).1) r0).toArray, .int .i64 (m07Begin b n x).2.1, .int .i64 (m07Begin b n x).2.2]) ∧ BAt W' (m07Begin b n x).1 r0 ∧ FreshIn [bRep b rb] W (bRep (m07Begin b n x).1 r0) ∧ Below W.heap.size W W') := by
 refine rf_enter (args := [.agg (encB b rb).toArray, .int .i64 n, .agg (encCall x).toArray]) [bRep b rb] Try.func39 rfl (by intro r hr; obtain rfl := List.mem_singleton.mp hr; exact hW) ?_
 refine rX 13 (fun y e => ?_)
 refine rf_call [.agg (encB b rb).toArray, .int .i64 n] (by rewrite [e]; kernel_rfl) Try.func52 rfl rfl (fun W_ hT_ hR_ => (c07_is b rb n _ (bget hR_ 0 rfl)).mono ?_)
 rintro e_ W1_ ⟨rfl, hb_⟩
 refine ⟨_, [], rfl, hb_, NewOk.nil, ?_⟩
 refine rX 2 (fun y f => ?_)
 rewrite [e] at f
 refine rf_case 15 (t := (!(isF b n))) (by rewrite [f]; kernel_rfl) (fun h1 => ?_) (fun h1 => ?_)
 ·refine rX 18 (fun y e => ?_)
  rewrite [f] at e
  generalize hm_ : m07Begin b n x = m_
  have h0_ := hm_
  unfold m07Begin at hm_
  simp only [bT h1] at hm_
  refine rf_ret (fn := Try.f39) te_ok [.agg (encB m_.1 rb).toArray, .int .i64 m_.2.1, .int .i64 m_.2.2] (by rewrite [e]; kernel_rfl) (by rewrite [e, ← hm_]; kernel_rfl) (fun W1_ hT_ hR_ hF_ => ?_)
  rw [← hm_]
  exact ⟨_, rfl, (bget hR_ 0 rfl), (fun k_ => (fun h_ => hF_ _ (mG 0 rfl) k_ h_)), hT_.below⟩
 ·refine rX 5 (fun y e => ?_)
  rewrite [f] at e
  refine rf_case 20 (t := (decide (x.f0 < 1))) (by rewrite [e]; kernel_rfl) (fun h2 => ?_) (fun h2 => ?_)
  ·refine rX 13 (fun y f => ?_)
   rewrite [e] at f
   generalize hm_ : m07Begin b n x = m_
   have h0_ := hm_
   unfold m07Begin at hm_
   simp only [bF h1, bT h2] at hm_
   refine rf_ret (fn := Try.f39) te_ok [.agg (encB m_.1 rb).toArray, .int .i64 m_.2.1, .int .i64 m_.2.2] (by rewrite [f]; kernel_rfl) (by rewrite [f, ← hm_]; kernel_rfl) (fun W1_ hT_ hR_ hF_ => ?_)
   rw [← hm_]
   exact ⟨_, rfl, (bget hR_ 0 rfl), (fun k_ => (fun h_ => hF_ _ (mG 0 rfl) k_ h_)), hT_.below⟩
  ·refine rX 5 (fun y f => ?_)
   rewrite [e] at f
   refine rf_if (b := (decide (x.f0 > 4))) (by rewrite [f]; kernel_rfl) (fun h3 => ?_) (fun h3 => ?_)
   ·refine rX 7 (fun y e => ?_)
    rewrite [f] at e
    generalize hm_ : m07Begin b n x = m_
    have h0_ := hm_
    unfold m07Begin at hm_
    simp only [bF h1, bF h2, bT h3] at hm_
    refine rf_ret (fn := Try.f39) te_ok [.agg (encB m_.1 rb).toArray, .int .i64 m_.2.1, .int .i64 m_.2.2] (by rewrite [e]; kernel_rfl) (by rewrite [e, ← hm_]; kernel_rfl) (fun W1_ hT_ hR_ hF_ => ?_)
    rw [← hm_]
    exact ⟨_, rfl, (bget hR_ 0 rfl), (fun k_ => (fun h_ => hF_ _ (mG 0 rfl) k_ h_)), hT_.below⟩
   ·refine rX 6 (fun y e => ?_)
    rewrite [f] at e
    refine rf_know (p := ∃ ad, rb.a5 = some ad) (fun W_ hR_ => row_some (bget hR_ 0 rfl).m5 (by rw [flat_len iE_len]; exact Nat.mul_pos (by have b0_ := isF_of h1; have b1_ := oF h2; have b2_ := oF h3; have p0_ := hW.i.lm; have p1_ := hW.i.li; have p2_ := hW.i.small; omega) (by decide))) ?_
    rintro ⟨ad4_, had4_⟩
    refine rf_ixF body_PQ te_ok (t := 25) (e := 3) (s := 1) (b := 8) (A := rb.a5) ad4_ (n := b.calls.length) (c := rb.c5) (k := .i64) (i := n) (by rewrite [e]; kernel_rfl) (by rewrite [e]; kernel_rfl) rfl had4_ (by have b0_ := isF_of h1; have b1_ := oF h2; have b2_ := oF h3; have p0_ := hW.i.lm; have p1_ := hW.i.li; have p2_ := hW.i.small; omega) (by have b0_ := isF_of h1; have b1_ := oF h2; have b2_ := oF h3; have p0_ := hW.i.lm; have p1_ := hW.i.li; have p2_ := hW.i.small; omega) ?_
    refine rf_ldF body_PQ (t := 3) (p := .pointer (some (ad4_.add (Int.toNat n * 1)))) (v := .int .i64 (b.calls.getD n.toNat 0)) [bRep b rb] (by rewrite [e]; kernel_rfl) (by rewrite [e]; kernel_rfl) (by rewrite [e]; kernel_rfl) (fun w_ hR_ => by exact row1' te_ok (sz := 1) (d := 0) rfl (by rw [← had4_]; exact (bget hR_ 0 rfl).m5) iE_len (o := 0) (by decide) (by have b0_ := isF_of h1; have b1_ := oF h2; have b2_ := oF h3; have p0_ := hW.i.lm; have p1_ := hW.i.li; have p2_ := hW.i.small; omega) (.int .i64 (b.calls.getD n.toNat 0)) (by kernel_rfl) (Nat.add_zero _).symm) ?_
    refine rX 11 (fun y f => ?_)
    rewrite [e] at f
    refine rf_if (b := ((b.calls.getD n.toNat 0) == b.c.f4)) (by rewrite [f]; kernel_rfl) (fun h5 => ?_) (fun h5 => ?_)
    ·refine rX 7 (fun y e => ?_)
     rewrite [f] at e
     generalize hm_ : m07Begin b n x = m_
     have h0_ := hm_
     unfold m07Begin at hm_
     simp only [bF h1, bF h2, bF h3, bT h5] at hm_
     refine rf_ret (fn := Try.f39) te_ok [.agg (encB m_.1 rb).toArray, .int .i64 m_.2.1, .int .i64 m_.2.2] (by rewrite [e]; kernel_rfl) (by rewrite [e, ← hm_]; kernel_rfl) (fun W1_ hT_ hR_ hF_ => ?_)
     rw [← hm_]
     exact ⟨_, rfl, (bget hR_ 0 rfl), (fun k_ => (fun h_ => hF_ _ (mG 0 rfl) k_ h_)), hT_.below⟩
    ·refine rX 6 (fun y e => ?_)
     rewrite [f] at e
     refine rf_call [.slice rb.a5 b.calls.length rb.c5, .int .i64 n] (by rewrite [e]; kernel_rfl) Try.func53 rfl rfl (fun W_ hT_ hR_ => (k07_more b.calls (IX.mk rb.a5 rb.c5) n (by have b0_ := isF_of h1; have b1_ := oF h2; have b2_ := oF h3; have b3_ := beq_ne h5; have p0_ := hW.i.lm; have p1_ := hW.i.li; have p2_ := hW.i.small; omega) _ ⟨(bget hR_ 0 rfl).m5, (bget hR_ 0 rfl).l5, (bget hR_ 0 rfl).i.big.1⟩).mono ?_)
     rintro e_ W1_ ⟨rx6_, rfl, hw6_, hf6_, hb_⟩
     refine ⟨_, [iRep (m07More b.calls n) rx6_], rfl, hb_, (NewOk.cons hw6_ (hf6_.one (fun k_ => (fun h_ => ⟨_, mG 0 rfl, (.inl h_)⟩))) NewOk.nil), ?_⟩
     refine rX 5 (fun y f => ?_)
     rewrite [e] at f
     refine rf_draw (by kernel_rfl) k07_Begin.T7 [0, 1, 3, 7, 15, 31, 15, 127, 255, 15, 527, 1551, 4095, 8191] [] [1, 0] [] (by rewrite [f]; kernel_rfl) (by kernel_rfl) (by rewrite [f]; kernel_rfl) ?_
     refine rf_ord [0, 1, 2, 3] ?_
     refine rX 4 (fun y e => ?_)
     rewrite [f] at e
     refine rf_case 45 (t := (x.f0 == 1)) (by rewrite [e]; kernel_rfl) (fun h7 => ?_) (fun h7 => ?_)
     ·refine rf_ord [4, 5, 6, 7, 8, 9, 10, 11, 12, 13] ?_
      refine rX 3 (fun y f => ?_)
      rewrite [e] at f
      refine rf_know (p := ∃ ad, rb.a6 = some ad) (fun W_ hR_ => row_some (bget hR_ 1 rfl).m6 (by rw [flat_len iE_len]; exact Nat.mul_pos (by have b0_ := isF_of h1; have b1_ := oF h2; have b2_ := oF h3; have b3_ := beq_ne h5; have p0_ := hW.i.lm; have p1_ := hW.i.li; have p2_ := hW.i.small; omega) (by decide))) ?_
      rintro ⟨ad8_, had8_⟩
      refine rf_ixF body_PQ te_ok (t := 25) (e := 3) (s := 1) (b := 8) (A := rb.a6) ad8_ (n := b.ins.length) (c := rb.c6) (k := .i64) (i := n) (by rewrite [f]; kernel_rfl) (by rewrite [f]; kernel_rfl) rfl had8_ (by have b0_ := isF_of h1; have b1_ := oF h2; have b2_ := oF h3; have b3_ := beq_ne h5; have p0_ := hW.i.lm; have p1_ := hW.i.li; have p2_ := hW.i.small; omega) (by have b0_ := isF_of h1; have b1_ := oF h2; have b2_ := oF h3; have b3_ := beq_ne h5; have p0_ := hW.i.lm; have p1_ := hW.i.li; have p2_ := hW.i.small; omega) ?_
      refine rf_ldF body_PQ (t := 3) (p := .pointer (some (ad8_.add (Int.toNat n * 1)))) (v := .int .i64 (b.ins.getD n.toNat 0)) [iRep (m07More b.calls n) rx6_, bRep b rb] (by rewrite [f]; kernel_rfl) (by rewrite [f]; kernel_rfl) (by rewrite [f]; kernel_rfl) (fun w_ hR_ => by exact row1' te_ok (sz := 1) (d := 0) rfl (by rw [← had8_]; exact (bget hR_ 1 rfl).m6) iE_len (o := 0) (by decide) (by have b0_ := isF_of h1; have b1_ := oF h2; have b2_ := oF h3; have b3_ := beq_ne h5; have p0_ := hW.i.lm; have p1_ := hW.i.li; have p2_ := hW.i.small; omega) (.int .i64 (b.ins.getD n.toNat 0)) (by kernel_rfl) (Nat.add_zero _).symm) ?_
      refine rX 6 (fun y e => ?_)
      rewrite [f] at e
      refine rf_if (b := ((b.ins.getD n.toNat 0) == b.c.f2)) (by rewrite [e]; kernel_rfl) (fun h9 => ?_) (fun h9 => ?_)
      ·refine rX 7 (fun y f => ?_)
       rewrite [e] at f
       generalize hm_ : m07Begin b n x = m_
       have h0_ := hm_
       unfold m07Begin at hm_
       simp only [bF h1, bF h2, bF h3, bF h5, bT h7, bT h9] at hm_
       refine rf_ret (fn := Try.f39) te_ok [.agg (encB m_.1 (RA.mk rx6_.A rb.a6 rb.a7 rb.a8 rb.a9 rx6_.C rb.c6 rb.c7 rb.c8 rb.c9)).toArray, .int .i64 m_.2.1, .int .i64 m_.2.2] (by rewrite [f]; kernel_rfl) (by rewrite [f, ← hm_]; kernel_rfl) (fun W1_ hT_ hR_ hF_ => ?_)
       rw [← hm_]
       exact ⟨_, rfl, ⟨(iget hR_ 0 rfl).m, (bget hR_ 1 rfl).m6, (bget hR_ 1 rfl).m7, (bget hR_ 1 rfl).m8, (bget hR_ 1 rfl).m9, (iget hR_ 0 rfl).l, (bget hR_ 1 rfl).l6, (bget hR_ 1 rfl).l7, (bget hR_ 1 rfl).l8, (bget hR_ 1 rfl).l9, (by have q_ := inv_m07Begin hW.i n x; rw [h0_, ← hm_] at q_; exact q_)⟩, (fun k_ => (fun h_ => h_.elim (fun h_ => hF_ _ (mG 0 rfl) k_ h_) (fun h_ => h_.elim (fun h_ => hF_ _ (mG 1 rfl) k_ (.inr (.inl h_))) (fun h_ => h_.elim (fun h_ => hF_ _ (mG 1 rfl) k_ (.inr (.inr (.inl h_)))) (fun h_ => h_.elim (fun h_ => hF_ _ (mG 1 rfl) k_ (.inr (.inr (.inr (.inl h_))))) (fun h_ => hF_ _ (mG 1 rfl) k_ (.inr (.inr (.inr (.inr h_)))))))))), hT_.below⟩
      ·refine rX 8 (fun y f => ?_)
       rewrite [e] at f
       refine rf_if (b := (x.f0 == 1)) (by rewrite [f]; kernel_rfl) (fun hx_ => ?_) (fun hx_ => by rw [h7] at hx_; cases hx_)
       clear hx_
       refine rX 4 (fun y e => ?_)
       rewrite [f] at e
       refine rf_call [.slice rb.a6 b.ins.length rb.c6, .int .i64 n] (by rewrite [e]; kernel_rfl) Try.func53 rfl rfl (fun W_ hT_ hR_ => (k07_more b.ins (IX.mk rb.a6 rb.c6) n (by have b0_ := isF_of h1; have b1_ := oF h2; have b2_ := oF h3; have b3_ := beq_ne h5; have b4_ := beq_ne h9; have p0_ := hW.i.lm; have p1_ := hW.i.li; have p2_ := hW.i.small; omega) _ ⟨(bget hR_ 1 rfl).m6, (bget hR_ 1 rfl).l6, (bget hR_ 1 rfl).i.big.2.1⟩).mono ?_)
       rintro e_ W1_ ⟨rx11_, rfl, hw11_, hf11_, hb_⟩
       refine ⟨_, [iRep (m07More b.ins n) rx11_], rfl, hb_, (NewOk.cons hw11_ (hf11_.one (fun k_ => (fun h_ => ⟨_, mG 1 rfl, (.inr (.inl h_))⟩))) NewOk.nil), ?_⟩
       refine rX 9 (fun y f => ?_)
       rewrite [e] at f
       refine rf_call [.agg (encC b.c).toArray, .int .i64 n, .int .i64 (b.calls.getD n.toNat 0)] (by rewrite [f]; kernel_rfl) Try.func54 rfl rfl (fun W_ hT_ hR_ => (c05_Op b.c n (b.calls.getD n.toNat 0) _).mono ?_)
       rintro e_ W1_ ⟨rfl, hb_⟩
       refine ⟨_, [], rfl, hb_, NewOk.nil, ?_⟩
       refine rX 3 (fun y e => ?_)
       rewrite [f] at e
       refine rf_draw (by kernel_rfl) k07_Begin.T12 [0, 0, 2, 7, 0, 0, 48, 112, 255, 511, 1023] [10] [0, 1] [] (by rewrite [e]; kernel_rfl) (by kernel_rfl) (by rewrite [e]; kernel_rfl) ?_
       refine rf_ord [1, 2, 4, 5, 6] ?_
       refine rX 5 (fun y f => ?_)
       rewrite [e] at f
       refine rf_fork2 0 7 (by rewrite [f]; kernel_rfl) ?_ ?_
       ·refine rf_ord [] ?_
        refine rX 1 (fun y e => ?_)
        rewrite [f] at e
        refine rf_fork2 3 7 (by rewrite [e]; kernel_rfl) ?_ ?_
        ·refine rf_ord [7, 8, 9, 10] ?_
         refine rf_know (p := b.ops.length ≤ 1000000) (fun W_ hR_ => (bget hR_ 2 rfl).i.big.2.2.2.1) (fun hs12_ => ?_)
         refine rf_apL te_ok true (t := 32) (e := 120) (size := 5) (by_ := 40) (i := 3) (n := 0) (c := 0) (x := .v (.slice rb.a8 b.ops.length rb.c8)) (enc := opcE) [] b.ops b.ops (sp := []) opcE_len opcE_one (by rewrite [e]; kernel_rfl) (by rewrite [e]; kernel_rfl) rfl (by rewrite [e]; kernel_rfl) rfl (by rfl) (Nat.le_refl _) (Nat.zero_le _) (by simp only [List.length_nil]; omega) (by decide) rfl (fun γ_ W_ hk_ hB_ => by have hR_ : RepAt _ W_ := hB_.rep; exact news_row (bget hR_ 2 rfl).m8 (row_none (bget hR_ 2 rfl).m8 opcE_len (by decide))) (fun _ => ld_of (by rewrite [e]; kernel_rfl)) (fun c12_ sp12_ hall12_ hle12_ hmx12_ => ?_)
         refine rX 3 (fun y f => ?_)
         rewrite [e] at f
         refine rf_apL te_ok true (t := 32) (e := 120) (size := 5) (by_ := 40) (i := 4) (n := b.ops.length) (c := c12_) (x := .sl 5 1 1) (enc := opcE) b.ops [⟨(lOp b.c n (b.calls.getD n.toNat 0)), x⟩] (b.ops ++ [⟨(lOp b.c n (b.calls.getD n.toNat 0)), x⟩]) (sp := sp12_) opcE_len opcE_one (by rewrite [f]; kernel_rfl) (by rewrite [f]; kernel_rfl) rfl (by rewrite [f]; kernel_rfl) rfl hall12_ hle12_ hmx12_ (by simp only [List.length_cons, List.length_nil]; have b0_ := isF_of h1; have b1_ := oF h2; have b2_ := oF h3; have b3_ := beq_ne h5; have b4_ := beq_ne h9; have p0_ := hW.i.lm; have p1_ := hW.i.li; have p2_ := hW.i.small; omega) (by decide) rfl (fun γ_ W_ hk_ hB_ => news_own hB_ (b := ⟨true, 120, [.v (.int .i64 (lOp b.c n (b.calls.getD n.toNat 0))), .v (.int .i64 x.f0), .v (.int .u64 x.f1), .v (.int .u64 x.f2), .v (.int .i64 x.f3)]⟩) (by rewrite [f]; kernel_rfl) rfl) (fun _ => ld_of (by rewrite [f]; kernel_rfl)) (fun c13_ sp13_ hall13_ hle13_ hmx13_ => ?_)
         refine rX 6 (fun y e => ?_)
         rewrite [f] at e
         refine rf_give (fun _ h_ => False.elim h_) 6 [0] (t := 120) (List.flatMap opcE (b.ops ++ [⟨(lOp b.c n (b.calls.getD n.toNat 0)), x⟩]) ++ sp13_) (fun g_ => (by rewrite [e]; kernel_rfl)) (by rewrite [e]; kernel_rfl) rfl (fun g14_ => ?_)
         refine rX 6 (fun y f => ?_)
         rewrite [e] at f
         generalize hm_ : m07Begin b n x = m_
         have h0_ := hm_
         unfold m07Begin at hm_
         simp only [bF h1, bF h2, bF h3, bF h5, bT h7, bF h9] at hm_
         refine rf_ret (fn := Try.f39) te_ok [.agg (encB m_.1 (RA.mk rx6_.A rx11_.A rb.a7 (some ⟨g14_, 0, none⟩) rb.a9 rx6_.C rx11_.C rb.c7 c13_ rb.c9)).toArray, .int .i64 m_.2.1, .int .i64 m_.2.2] (by rewrite [f]; kernel_rfl) (by rewrite [f, ← hm_]; kernel_rfl) (fun W1_ hT_ hR_ hF_ => ?_)
         rw [← hm_]
         exact ⟨_, rfl, ⟨(iget hR_ 2 rfl).m, (iget hR_ 1 rfl).m, (bget hR_ 3 rfl).m7, (row_blk (hR_.get 0 rfl)), (bget hR_ 3 rfl).m9, (iget hR_ 2 rfl).l, (iget hR_ 1 rfl).l, (bget hR_ 3 rfl).l7, hle13_, (bget hR_ 3 rfl).l9, (by have q_ := inv_m07Begin hW.i n x; rw [h0_, ← hm_] at q_; exact q_)⟩, (fun k_ => (fun h_ => h_.elim (fun h_ => hF_ _ (mG 2 rfl) k_ h_) (fun h_ => h_.elim (fun h_ => hF_ _ (mG 1 rfl) k_ h_) (fun h_ => h_.elim (fun h_ => hF_ _ (mG 3 rfl) k_ (.inr (.inr (.inl h_)))) (fun h_ => h_.elim (fun h_ => hF_ _ (mG 0 rfl) k_ (rowBl_blk h_)) (fun h_ => hF_ _ (mG 3 rfl) k_ (.inr (.inr (.inr (.inr h_)))))))))), hT_.below⟩
        ·refine rf_ord [3, 8, 9, 10] ?_
         refine rX 2 (fun y f => ?_)
         rewrite [e] at f
         refine rf_know (p := b.ops.length ≤ 1000000) (fun W_ hR_ => (bget hR_ 2 rfl).i.big.2.2.2.1) (fun hs15_ => ?_)
         refine rf_apL te_ok true (t := 32) (e := 120) (size := 5) (by_ := 40) (i := 3) (n := 0) (c := 0) (x := .v (.slice rb.a8 b.ops.length rb.c8)) (enc := opcE) [] b.ops b.ops (sp := []) opcE_len opcE_one (by rewrite [f]; kernel_rfl) (by rewrite [f]; kernel_rfl) rfl (by rewrite [f]; kernel_rfl) rfl (by rfl) (Nat.le_refl _) (Nat.zero_le _) (by simp only [List.length_nil]; omega) (by decide) rfl (fun γ_ W_ hk_ hB_ => by have hR_ : RepAt _ W_ := hB_.rep; exact news_row (bget hR_ 2 rfl).m8 (row_none (bget hR_ 2 rfl).m8 opcE_len (by decide))) (fun _ => ld_of (by rewrite [f]; kernel_rfl)) (fun c15_ sp15_ hall15_ hle15_ hmx15_ => ?_)
         refine rX 1 (fun y e => ?_)
         rewrite [f] at e
         refine rf_apL te_ok true (t := 32) (e := 120) (size := 5) (by_ := 40) (i := 5) (n := b.ops.length) (c := c15_) (x := .sl 4 1 1) (enc := opcE) b.ops [⟨(lOp b.c n (b.calls.getD n.toNat 0)), x⟩] (b.ops ++ [⟨(lOp b.c n (b.calls.getD n.toNat 0)), x⟩]) (sp := sp15_) opcE_len opcE_one (by rewrite [e]; kernel_rfl) (by rewrite [e]; kernel_rfl) rfl (by rewrite [e]; kernel_rfl) rfl hall15_ hle15_ hmx15_ (by simp only [List.length_cons, List.length_nil]; have b0_ := isF_of h1; have b1_ := oF h2; have b2_ := oF h3; have b3_ := beq_ne h5; have b4_ := beq_ne h9; have p0_ := hW.i.lm; have p1_ := hW.i.li; have p2_ := hW.i.small; omega) (by decide) rfl (fun γ_ W_ hk_ hB_ => news_own hB_ (b := ⟨true, 120, [.v (.int .i64 (lOp b.c n (b.calls.getD n.toNat 0))), .v (.int .i64 x.f0), .v (.int .u64 x.f1), .v (.int .u64 x.f2), .v (.int .i64 x.f3)]⟩) (by rewrite [e]; kernel_rfl) rfl) (fun _ => ld_of (by rewrite [e]; kernel_rfl)) (fun c16_ sp16_ hall16_ hle16_ hmx16_ => ?_)
         refine rX 6 (fun y f => ?_)
         rewrite [e] at f
         refine rf_give (fun _ h_ => False.elim h_) 6 [0] (t := 120) (List.flatMap opcE (b.ops ++ [⟨(lOp b.c n (b.calls.getD n.toNat 0)), x⟩]) ++ sp16_) (fun g_ => (by rewrite [f]; kernel_rfl)) (by rewrite [f]; kernel_rfl) rfl (fun g17_ => ?_)
         refine rX 6 (fun y e => ?_)
         rewrite [f] at e
         generalize hm_ : m07Begin b n x = m_
         have h0_ := hm_
         unfold m07Begin at hm_
         simp only [bF h1, bF h2, bF h3, bF h5, bT h7, bF h9] at hm_
         refine rf_ret (fn := Try.f39) te_ok [.agg (encB m_.1 (RA.mk rx6_.A rx11_.A rb.a7 (some ⟨g17_, 0, none⟩) rb.a9 rx6_.C rx11_.C rb.c7 c16_ rb.c9)).toArray, .int .i64 m_.2.1, .int .i64 m_.2.2] (by rewrite [e]; kernel_rfl) (by rewrite [e, ← hm_]; kernel_rfl) (fun W1_ hT_ hR_ hF_ => ?_)
         rw [← hm_]
         exact ⟨_, rfl, ⟨(iget hR_ 2 rfl).m, (iget hR_ 1 rfl).m, (bget hR_ 3 rfl).m7, (row_blk (hR_.get 0 rfl)), (bget hR_ 3 rfl).m9, (iget hR_ 2 rfl).l, (iget hR_ 1 rfl).l, (bget hR_ 3 rfl).l7, hle16_, (bget hR_ 3 rfl).l9, (by have q_ := inv_m07Begin hW.i n x; rw [h0_, ← hm_] at q_; exact q_)⟩, (fun k_ => (fun h_ => h_.elim (fun h_ => hF_ _ (mG 2 rfl) k_ h_) (fun h_ => h_.elim (fun h_ => hF_ _ (mG 1 rfl) k_ h_) (fun h_ => h_.elim (fun h_ => hF_ _ (mG 3 rfl) k_ (.inr (.inr (.inl h_)))) (fun h_ => h_.elim (fun h_ => hF_ _ (mG 0 rfl) k_ (rowBl_blk h_)) (fun h_ => hF_ _ (mG 3 rfl) k_ (.inr (.inr (.inr (.inr h_)))))))))), hT_.below⟩
       ·refine rf_ord [0, 3, 8, 9, 10] ?_
        refine rX 4 (fun y e => ?_)
        rewrite [f] at e
        refine rf_know (p := b.ops.length ≤ 1000000) (fun W_ hR_ => (bget hR_ 2 rfl).i.big.2.2.2.1) (fun hs18_ => ?_)
        refine rf_apL te_ok true (t := 32) (e := 120) (size := 5) (by_ := 40) (i := 4) (n := 0) (c := 0) (x := .v (.slice rb.a8 b.ops.length rb.c8)) (enc := opcE) [] b.ops b.ops (sp := []) opcE_len opcE_one (by rewrite [e]; kernel_rfl) (by rewrite [e]; kernel_rfl) rfl (by rewrite [e]; kernel_rfl) rfl (by rfl) (Nat.le_refl _) (Nat.zero_le _) (by simp only [List.length_nil]; omega) (by decide) rfl (fun γ_ W_ hk_ hB_ => by have hR_ : RepAt _ W_ := hB_.rep; exact news_row (bget hR_ 2 rfl).m8 (row_none (bget hR_ 2 rfl).m8 opcE_len (by decide))) (fun _ => ld_of (by rewrite [e]; kernel_rfl)) (fun c18_ sp18_ hall18_ hle18_ hmx18_ => ?_)
        refine rX 1 (fun y f => ?_)
        rewrite [e] at f
        refine rf_apL te_ok true (t := 32) (e := 120) (size := 5) (by_ := 40) (i := 5) (n := b.ops.length) (c := c18_) (x := .sl 3 1 1) (enc := opcE) b.ops [⟨(lOp b.c n (b.calls.getD n.toNat 0)), x⟩] (b.ops ++ [⟨(lOp b.c n (b.calls.getD n.toNat 0)), x⟩]) (sp := sp18_) opcE_len opcE_one (by rewrite [f]; kernel_rfl) (by rewrite [f]; kernel_rfl) rfl (by rewrite [f]; kernel_rfl) rfl hall18_ hle18_ hmx18_ (by simp only [List.length_cons, List.length_nil]; have b0_ := isF_of h1; have b1_ := oF h2; have b2_ := oF h3; have b3_ := beq_ne h5; have b4_ := beq_ne h9; have p0_ := hW.i.lm; have p1_ := hW.i.li; have p2_ := hW.i.small; omega) (by decide) rfl (fun γ_ W_ hk_ hB_ => news_own hB_ (b := ⟨true, 120, [.v (.int .i64 (lOp b.c n (b.calls.getD n.toNat 0))), .v (.int .i64 x.f0), .v (.int .u64 x.f1), .v (.int .u64 x.f2), .v (.int .i64 x.f3)]⟩) (by rewrite [f]; kernel_rfl) rfl) (fun _ => ld_of (by rewrite [f]; kernel_rfl)) (fun c19_ sp19_ hall19_ hle19_ hmx19_ => ?_)
        refine rX 6 (fun y e => ?_)
        rewrite [f] at e
        refine rf_give (fun _ h_ => False.elim h_) 6 [0] (t := 120) (List.flatMap opcE (b.ops ++ [⟨(lOp b.c n (b.calls.getD n.toNat 0)), x⟩]) ++ sp19_) (fun g_ => (by rewrite [e]; kernel_rfl)) (by rewrite [e]; kernel_rfl) rfl (fun g20_ => ?_)
        refine rX 6 (fun y f => ?_)
        rewrite [e] at f
        generalize hm_ : m07Begin b n x = m_
        have h0_ := hm_
        unfold m07Begin at hm_
        simp only [bF h1, bF h2, bF h3, bF h5, bT h7, bF h9] at hm_
        refine rf_ret (fn := Try.f39) te_ok [.agg (encB m_.1 (RA.mk rx6_.A rx11_.A rb.a7 (some ⟨g20_, 0, none⟩) rb.a9 rx6_.C rx11_.C rb.c7 c19_ rb.c9)).toArray, .int .i64 m_.2.1, .int .i64 m_.2.2] (by rewrite [f]; kernel_rfl) (by rewrite [f, ← hm_]; kernel_rfl) (fun W1_ hT_ hR_ hF_ => ?_)
        rw [← hm_]
        exact ⟨_, rfl, ⟨(iget hR_ 2 rfl).m, (iget hR_ 1 rfl).m, (bget hR_ 3 rfl).m7, (row_blk (hR_.get 0 rfl)), (bget hR_ 3 rfl).m9, (iget hR_ 2 rfl).l, (iget hR_ 1 rfl).l, (bget hR_ 3 rfl).l7, hle19_, (bget hR_ 3 rfl).l9, (by have q_ := inv_m07Begin hW.i n x; rw [h0_, ← hm_] at q_; exact q_)⟩, (fun k_ => (fun h_ => h_.elim (fun h_ => hF_ _ (mG 2 rfl) k_ h_) (fun h_ => h_.elim (fun h_ => hF_ _ (mG 1 rfl) k_ h_) (fun h_ => h_.elim (fun h_ => hF_ _ (mG 3 rfl) k_ (.inr (.inr (.inl h_)))) (fun h_ => h_.elim (fun h_ => hF_ _ (mG 0 rfl) k_ (rowBl_blk h_)) (fun h_ => hF_ _ (mG 3 rfl) k_ (.inr (.inr (.inr (.inr h_)))))))))), hT_.below⟩
     ·refine rf_ord [4, 5, 6, 7, 8, 9, 10, 11, 12, 13] ?_
      refine rX 20 (fun y f => ?_)
      rewrite [e] at f
      refine rf_if (b := (x.f0 == 1)) (by rewrite [f]; kernel_rfl) (fun hx_ => by rw [h7] at hx_; cases hx_) (fun hx_ => ?_)
      clear hx_
      refine rX 7 (fun y e => ?_)
      rewrite [f] at e
      refine rf_call [.agg (encC b.c).toArray, .int .i64 n, .int .i64 (b.calls.getD n.toNat 0)] (by rewrite [e]; kernel_rfl) Try.func54 rfl rfl (fun W_ hT_ hR_ => (c05_Op b.c n (b.calls.getD n.toNat 0) _).mono ?_)
      rintro e_ W1_ ⟨rfl, hb_⟩
      refine ⟨_, [], rfl, hb_, NewOk.nil, ?_⟩
      refine rX 3 (fun y f => ?_)
      rewrite [e] at f
      refine rf_draw (by kernel_rfl) k07_Begin.T12 [0, 0, 2, 7, 0, 0, 48, 112, 255, 511, 1023] [10] [0, 1] [] (by rewrite [f]; kernel_rfl) (by kernel_rfl) (by rewrite [f]; kernel_rfl) ?_
      refine rf_ord [1, 2, 4, 5, 6] ?_
      refine rX 5 (fun y e => ?_)
      rewrite [f] at e
      refine rf_fork2 0 7 (by rewrite [e]; kernel_rfl) ?_ ?_
      ·refine rf_ord [] ?_
       refine rX 1 (fun y f => ?_)
       rewrite [e] at f
       refine rf_fork2 3 7 (by rewrite [f]; kernel_rfl) ?_ ?_
       ·refine rf_ord [7, 8, 9, 10] ?_
        refine rf_know (p := b.ops.length ≤ 1000000) (fun W_ hR_ => (bget hR_ 1 rfl).i.big.2.2.2.1) (fun hs22_ => ?_)
        refine rf_apL te_ok true (t := 32) (e := 120) (size := 5) (by_ := 40) (i := 3) (n := 0) (c := 0) (x := .v (.slice rb.a8 b.ops.length rb.c8)) (enc := opcE) [] b.ops b.ops (sp := []) opcE_len opcE_one (by rewrite [f]; kernel_rfl) (by rewrite [f]; kernel_rfl) rfl (by rewrite [f]; kernel_rfl) rfl (by rfl) (Nat.le_refl _) (Nat.zero_le _) (by simp only [List.length_nil]; omega) (by decide) rfl (fun γ_ W_ hk_ hB_ => by have hR_ : RepAt _ W_ := hB_.rep; exact news_row (bget hR_ 1 rfl).m8 (row_none (bget hR_ 1 rfl).m8 opcE_len (by decide))) (fun _ => ld_of (by rewrite [f]; kernel_rfl)) (fun c22_ sp22_ hall22_ hle22_ hmx22_ => ?_)
        refine rX 3 (fun y e => ?_)
        rewrite [f] at e
        refine rf_apL te_ok true (t := 32) (e := 120) (size := 5) (by_ := 40) (i := 4) (n := b.ops.length) (c := c22_) (x := .sl 5 1 1) (enc := opcE) b.ops [⟨(lOp b.c n (b.calls.getD n.toNat 0)), x⟩] (b.ops ++ [⟨(lOp b.c n (b.calls.getD n.toNat 0)), x⟩]) (sp := sp22_) opcE_len opcE_one (by rewrite [e]; kernel_rfl) (by rewrite [e]; kernel_rfl) rfl (by rewrite [e]; kernel_rfl) rfl hall22_ hle22_ hmx22_ (by simp only [List.length_cons, List.length_nil]; have b0_ := isF_of h1; have b1_ := oF h2; have b2_ := oF h3; have b3_ := beq_ne h5; have b4_ := beq_ne h7; have p0_ := hW.i.lm; have p1_ := hW.i.li; have p2_ := hW.i.small; omega) (by decide) rfl (fun γ_ W_ hk_ hB_ => news_own hB_ (b := ⟨true, 120, [.v (.int .i64 (lOp b.c n (b.calls.getD n.toNat 0))), .v (.int .i64 x.f0), .v (.int .u64 x.f1), .v (.int .u64 x.f2), .v (.int .i64 x.f3)]⟩) (by rewrite [e]; kernel_rfl) rfl) (fun _ => ld_of (by rewrite [e]; kernel_rfl)) (fun c23_ sp23_ hall23_ hle23_ hmx23_ => ?_)
        refine rX 6 (fun y f => ?_)
        rewrite [e] at f
        refine rf_give (fun _ h_ => False.elim h_) 6 [0] (t := 120) (List.flatMap opcE (b.ops ++ [⟨(lOp b.c n (b.calls.getD n.toNat 0)), x⟩]) ++ sp23_) (fun g_ => (by rewrite [f]; kernel_rfl)) (by rewrite [f]; kernel_rfl) rfl (fun g24_ => ?_)
        refine rX 6 (fun y e => ?_)
        rewrite [f] at e
        generalize hm_ : m07Begin b n x = m_
        have h0_ := hm_
        unfold m07Begin at hm_
        simp only [bF h1, bF h2, bF h3, bF h5, bF h7] at hm_
        refine rf_ret (fn := Try.f39) te_ok [.agg (encB m_.1 (RA.mk rx6_.A rb.a6 rb.a7 (some ⟨g24_, 0, none⟩) rb.a9 rx6_.C rb.c6 rb.c7 c23_ rb.c9)).toArray, .int .i64 m_.2.1, .int .i64 m_.2.2] (by rewrite [e]; kernel_rfl) (by rewrite [e, ← hm_]; kernel_rfl) (fun W1_ hT_ hR_ hF_ => ?_)
        rw [← hm_]
        exact ⟨_, rfl, ⟨(iget hR_ 1 rfl).m, (bget hR_ 2 rfl).m6, (bget hR_ 2 rfl).m7, (row_blk (hR_.get 0 rfl)), (bget hR_ 2 rfl).m9, (iget hR_ 1 rfl).l, (bget hR_ 2 rfl).l6, (bget hR_ 2 rfl).l7, hle23_, (bget hR_ 2 rfl).l9, (by have q_ := inv_m07Begin hW.i n x; rw [h0_, ← hm_] at q_; exact q_)⟩, (fun k_ => (fun h_ => h_.elim (fun h_ => hF_ _ (mG 1 rfl) k_ h_) (fun h_ => h_.elim (fun h_ => hF_ _ (mG 2 rfl) k_ (.inr (.inl h_))) (fun h_ => h_.elim (fun h_ => hF_ _ (mG 2 rfl) k_ (.inr (.inr (.inl h_)))) (fun h_ => h_.elim (fun h_ => hF_ _ (mG 0 rfl) k_ (rowBl_blk h_)) (fun h_ => hF_ _ (mG 2 rfl) k_ (.inr (.inr (.inr (.inr h_)))))))))), hT_.below⟩
       ·refine rf_ord [3, 8, 9, 10] ?_
        refine rX 2 (fun y e => ?_)
        rewrite [f] at e
        refine rf_know (p := b.ops.length ≤ 1000000) (fun W_ hR_ => (bget hR_ 1 rfl).i.big.2.2.2.1) (fun hs25_ => ?_)
        refine rf_apL te_ok true (t := 32) (e := 120) (size := 5) (by_ := 40) (i := 3) (n := 0) (c := 0) (x := .v (.slice rb.a8 b.ops.length rb.c8)) (enc := opcE) [] b.ops b.ops (sp := []) opcE_len opcE_one (by rewrite [e]; kernel_rfl) (by rewrite [e]; kernel_rfl) rfl (by rewrite [e]; kernel_rfl) rfl (by rfl) (Nat.le_refl _) (Nat.zero_le _) (by simp only [List.length_nil]; omega) (by decide) rfl (fun γ_ W_ hk_ hB_ => by have hR_ : RepAt _ W_ := hB_.rep; exact news_row (bget hR_ 1 rfl).m8 (row_none (bget hR_ 1 rfl).m8 opcE_len (by decide))) (fun _ => ld_of (by rewrite [e]; kernel_rfl)) (fun c25_ sp25_ hall25_ hle25_ hmx25_ => ?_)
        refine rX 1 (fun y f => ?_)
        rewrite [e] at f
        refine rf_apL te_ok true (t := 32) (e := 120) (size := 5) (by_ := 40) (i := 5) (n := b.ops.length) (c := c25_) (x := .sl 4 1 1) (enc := opcE) b.ops [⟨(lOp b.c n (b.calls.getD n.toNat 0)), x⟩] (b.ops ++ [⟨(lOp b.c n (b.calls.getD n.toNat 0)), x⟩]) (sp := sp25_) opcE_len opcE_one (by rewrite [f]; kernel_rfl) (by rewrite [f]; kernel_rfl) rfl (by rewrite [f]; kernel_rfl) rfl hall25_ hle25_ hmx25_ (by simp only [List.length_cons, List.length_nil]; have b0_ := isF_of h1; have b1_ := oF h2; have b2_ := oF h3; have b3_ := beq_ne h5; have b4_ := beq_ne h7; have p0_ := hW.i.lm; have p1_ := hW.i.li; have p2_ := hW.i.small; omega) (by decide) rfl (fun γ_ W_ hk_ hB_ => news_own hB_ (b := ⟨true, 120, [.v (.int .i64 (lOp b.c n (b.calls.getD n.toNat 0))), .v (.int .i64 x.f0), .v (.int .u64 x.f1), .v (.int .u64 x.f2), .v (.int .i64 x.f3)]⟩) (by rewrite [f]; kernel_rfl) rfl) (fun _ => ld_of (by rewrite [f]; kernel_rfl)) (fun c26_ sp26_ hall26_ hle26_ hmx26_ => ?_)
        refine rX 6 (fun y e => ?_)
        rewrite [f] at e
        refine rf_give (fun _ h_ => False.elim h_) 6 [0] (t := 120) (List.flatMap opcE (b.ops ++ [⟨(lOp b.c n (b.calls.getD n.toNat 0)), x⟩]) ++ sp26_) (fun g_ => (by rewrite [e]; kernel_rfl)) (by rewrite [e]; kernel_rfl) rfl (fun g27_ => ?_)
        refine rX 6 (fun y f => ?_)
        rewrite [e] at f
        generalize hm_ : m07Begin b n x = m_
        have h0_ := hm_
        unfold m07Begin at hm_
        simp only [bF h1, bF h2, bF h3, bF h5, bF h7] at hm_
        refine rf_ret (fn := Try.f39) te_ok [.agg (encB m_.1 (RA.mk rx6_.A rb.a6 rb.a7 (some ⟨g27_, 0, none⟩) rb.a9 rx6_.C rb.c6 rb.c7 c26_ rb.c9)).toArray, .int .i64 m_.2.1, .int .i64 m_.2.2] (by rewrite [f]; kernel_rfl) (by rewrite [f, ← hm_]; kernel_rfl) (fun W1_ hT_ hR_ hF_ => ?_)
        rw [← hm_]
        exact ⟨_, rfl, ⟨(iget hR_ 1 rfl).m, (bget hR_ 2 rfl).m6, (bget hR_ 2 rfl).m7, (row_blk (hR_.get 0 rfl)), (bget hR_ 2 rfl).m9, (iget hR_ 1 rfl).l, (bget hR_ 2 rfl).l6, (bget hR_ 2 rfl).l7, hle26_, (bget hR_ 2 rfl).l9, (by have q_ := inv_m07Begin hW.i n x; rw [h0_, ← hm_] at q_; exact q_)⟩, (fun k_ => (fun h_ => h_.elim (fun h_ => hF_ _ (mG 1 rfl) k_ h_) (fun h_ => h_.elim (fun h_ => hF_ _ (mG 2 rfl) k_ (.inr (.inl h_))) (fun h_ => h_.elim (fun h_ => hF_ _ (mG 2 rfl) k_ (.inr (.inr (.inl h_)))) (fun h_ => h_.elim (fun h_ => hF_ _ (mG 0 rfl) k_ (rowBl_blk h_)) (fun h_ => hF_ _ (mG 2 rfl) k_ (.inr (.inr (.inr (.inr h_)))))))))), hT_.below⟩
      ·refine rf_ord [0, 3, 8, 9, 10] ?_
       refine rX 4 (fun y f => ?_)
       rewrite [e] at f
       refine rf_know (p := b.ops.length ≤ 1000000) (fun W_ hR_ => (bget hR_ 1 rfl).i.big.2.2.2.1) (fun hs28_ => ?_)
       refine rf_apL te_ok true (t := 32) (e := 120) (size := 5) (by_ := 40) (i := 4) (n := 0) (c := 0) (x := .v (.slice rb.a8 b.ops.length rb.c8)) (enc := opcE) [] b.ops b.ops (sp := []) opcE_len opcE_one (by rewrite [f]; kernel_rfl) (by rewrite [f]; kernel_rfl) rfl (by rewrite [f]; kernel_rfl) rfl (by rfl) (Nat.le_refl _) (Nat.zero_le _) (by simp only [List.length_nil]; omega) (by decide) rfl (fun γ_ W_ hk_ hB_ => by have hR_ : RepAt _ W_ := hB_.rep; exact news_row (bget hR_ 1 rfl).m8 (row_none (bget hR_ 1 rfl).m8 opcE_len (by decide))) (fun _ => ld_of (by rewrite [f]; kernel_rfl)) (fun c28_ sp28_ hall28_ hle28_ hmx28_ => ?_)
       refine rX 1 (fun y e => ?_)
       rewrite [f] at e
       refine rf_apL te_ok true (t := 32) (e := 120) (size := 5) (by_ := 40) (i := 5) (n := b.ops.length) (c := c28_) (x := .sl 3 1 1) (enc := opcE) b.ops [⟨(lOp b.c n (b.calls.getD n.toNat 0)), x⟩] (b.ops ++ [⟨(lOp b.c n (b.calls.getD n.toNat 0)), x⟩]) (sp := sp28_) opcE_len opcE_one (by rewrite [e]; kernel_rfl) (by rewrite [e]; kernel_rfl) rfl (by rewrite [e]; kernel_rfl) rfl hall28_ hle28_ hmx28_ (by simp only [List.length_cons, List.length_nil]; have b0_ := isF_of h1; have b1_ := oF h2; have b2_ := oF h3; have b3_ := beq_ne h5; have b4_ := beq_ne h7; have p0_ := hW.i.lm; have p1_ := hW.i.li; have p2_ := hW.i.small; omega) (by decide) rfl (fun γ_ W_ hk_ hB_ => news_own hB_ (b := ⟨true, 120, [.v (.int .i64 (lOp b.c n (b.calls.getD n.toNat 0))), .v (.int .i64 x.f0), .v (.int .u64 x.f1), .v (.int .u64 x.f2), .v (.int .i64 x.f3)]⟩) (by rewrite [e]; kernel_rfl) rfl) (fun _ => ld_of (by rewrite [e]; kernel_rfl)) (fun c29_ sp29_ hall29_ hle29_ hmx29_ => ?_)
       refine rX 6 (fun y f => ?_)
       rewrite [e] at f
       refine rf_give (fun _ h_ => False.elim h_) 6 [0] (t := 120) (List.flatMap opcE (b.ops ++ [⟨(lOp b.c n (b.calls.getD n.toNat 0)), x⟩]) ++ sp29_) (fun g_ => (by rewrite [f]; kernel_rfl)) (by rewrite [f]; kernel_rfl) rfl (fun g30_ => ?_)
       refine rX 6 (fun y e => ?_)
       rewrite [f] at e
       generalize hm_ : m07Begin b n x = m_
       have h0_ := hm_
       unfold m07Begin at hm_
       simp only [bF h1, bF h2, bF h3, bF h5, bF h7] at hm_
       refine rf_ret (fn := Try.f39) te_ok [.agg (encB m_.1 (RA.mk rx6_.A rb.a6 rb.a7 (some ⟨g30_, 0, none⟩) rb.a9 rx6_.C rb.c6 rb.c7 c29_ rb.c9)).toArray, .int .i64 m_.2.1, .int .i64 m_.2.2] (by rewrite [e]; kernel_rfl) (by rewrite [e, ← hm_]; kernel_rfl) (fun W1_ hT_ hR_ hF_ => ?_)
       rw [← hm_]
       exact ⟨_, rfl, ⟨(iget hR_ 1 rfl).m, (bget hR_ 2 rfl).m6, (bget hR_ 2 rfl).m7, (row_blk (hR_.get 0 rfl)), (bget hR_ 2 rfl).m9, (iget hR_ 1 rfl).l, (bget hR_ 2 rfl).l6, (bget hR_ 2 rfl).l7, hle29_, (bget hR_ 2 rfl).l9, (by have q_ := inv_m07Begin hW.i n x; rw [h0_, ← hm_] at q_; exact q_)⟩, (fun k_ => (fun h_ => h_.elim (fun h_ => hF_ _ (mG 1 rfl) k_ h_) (fun h_ => h_.elim (fun h_ => hF_ _ (mG 2 rfl) k_ (.inr (.inl h_))) (fun h_ => h_.elim (fun h_ => hF_ _ (mG 2 rfl) k_ (.inr (.inr (.inl h_)))) (fun h_ => h_.elim (fun h_ => hF_ _ (mG 0 rfl) k_ (rowBl_blk h_)) (fun h_ => hF_ _ (mG 2 rfl) k_ (.inr (.inr (.inr (.inr h_)))))))))), hT_.below⟩
end Go.Proofs.Ytbhakljebcmocaa.PBoundKeeps
end
section
namespace Go.Proofs.Ytbhakljebcmocaa.PBoundKeeps
open Go.RowKit Go.Proofs.YtbhakljebcmocaaW.PrintWords Go.Proofs.YtbhakljebcmocaaW.PrintLast Go.Proofs.YtbhakljebcmocaaW.PrintMore
set_option linter.unusedVariables false
set_option maxHeartbeats 1000000
set_option maxRecDepth 100000
set_option linter.unusedSimpArgs false
def m11Told (w : RW) (x : PutR) (s : Int) : PutR := (bif (s == 0) then (bif (x.phase == 2) then ⟨x.op, x.thread, 3, x.node, x.linked, x.walk, x.done, false⟩ else ⟨x.op, x.thread, 1, x.node, x.linked, (m10New (callF w.b x.op).f1 1), x.done, false⟩) else (bif x.linked then ⟨x.op, x.thread, 5, x.node, x.linked, (m10New (callF w.b x.op).f1 1), x.done, (s != 2)⟩ else ⟨x.op, x.thread, x.phase, x.node, x.linked, x.walk, true, (s != 2)⟩))
theorem k11_told (w : RW) (rw : RX) (x : PutR) (s : Int) (W : World) (hW : WAt W w rw) : Calls Try.prog 74 #[.agg (encW w rw).toArray, .agg (encPut x).toArray, .int .u64 s] W (fun e W' => e = .returned (.agg (encPut (m11Told w x s)).toArray) ∧ Below W.heap.size W W') := by
 refine rf_enter (args := [.agg (encW w rw).toArray, .agg (encPut x).toArray, .int .u64 s]) [wRep w rw] Try.func74 rfl (by intro r hr; obtain rfl := List.mem_singleton.mp hr; exact hW) ?_
 refine rX 12 ?_
 refine qV [.agg (encB w.b rw.r).toArray, .int .i64 x.op] (fun W_ hT_ hR_ => c07_Call w.b rw.r x.op _ (wget hR_ 0 rfl).b) ?_
 refine rZ 13 ?_
 refine qI (s == 0) (fun h1 => ?_) (fun h1 => ?_)
 ·refine rZ 12 ?_
  refine qI (x.phase == 2) (fun h2 => ?_) (fun h2 => ?_)
  ·refine rZ 10 ?_
   obtain ⟨m_, hq_, hm_⟩ := nm (m11Told w x s)
   unfold m11Told at hm_
   simp only [bT h1, bT h2] at hm_
   refine qR [.agg (encPut m_).toArray] (fun W1_ hT_ hR_ hF_ => ?_) (h := by rewrite [← hm_]; kernel_rfl)
   rw [hq_, ← hm_]
   exact ⟨rfl, hT_.below⟩
  ·refine rZ 5 ?_
   refine qV [.int .u64 (callF w.b x.op).f1, .int .i64 1] (fun W_ hT_ hR_ => k10_New _ _ _) ?_
   refine rZ 13 ?_
   obtain ⟨m_, hq_, hm_⟩ := nm (m11Told w x s)
   unfold m11Told at hm_
   simp only [bT h1, bF h2] at hm_
   refine qR [.agg (encPut m_).toArray] (fun W1_ hT_ hR_ hF_ => ?_) (h := by rewrite [← hm_]; kernel_rfl)
   rw [hq_, ← hm_]
   exact ⟨rfl, hT_.below⟩
 ·refine rZ 14 ?_
  refine qI x.linked (fun h3 => ?_) (fun h3 => ?_)
  ·refine rZ 4 ?_
   refine qV [.int .u64 (callF w.b x.op).f1, .int .i64 1] (fun W_ hT_ hR_ => k10_New _ _ _) ?_
   refine rZ 13 ?_
   obtain ⟨m_, hq_, hm_⟩ := nm (m11Told w x s)
   unfold m11Told at hm_
   simp only [bF h1, bT h3] at hm_
   refine qR [.agg (encPut m_).toArray] (fun W1_ hT_ hR_ hF_ => ?_) (h := by rewrite [← hm_]; kernel_rfl)
   rw [hq_, ← hm_]
   exact ⟨rfl, hT_.below⟩
  ·refine rZ 11 ?_
   obtain ⟨m_, hq_, hm_⟩ := nm (m11Told w x s)
   unfold m11Told at hm_
   simp only [bF h1, bF h3] at hm_
   refine qR [.agg (encPut m_).toArray] (fun W1_ hT_ hR_ hF_ => ?_) (h := by rewrite [← hm_]; kernel_rfl)
   rw [hq_, ← hm_]
   exact ⟨rfl, hT_.below⟩
def k11_lay.T5 : Bool × List (List Nat × List Nat) := (true, [([], []), ([], []), ([0, 0], [0]), ([1, 2, 0, 1, 2], [1])])
def k11_lay.T9 : Bool × List (List Nat × List Nat) := (true, [([], []), ([], []), ([1], [1]), ([], []), ([3], [3]), ([4], [4]), ([5], [5]), ([0, 2, 6, 6], [0, 2, 6]), ([], []), ([7, 7, 0, 1, 2, 3, 4, 5, 6, 7], [7]), ([8, 9, 0, 1, 2, 3, 4, 5, 6, 7, 8, 9], [8])])
def m11Lay (w : RW) (x : PutR) : RW × PutR := (bif (x.node == 0) then (bif ((m07Make w.b x.thread x.op).2.2 != 0) then (w, ⟨x.op, x.thread, x.phase, x.node, x.linked, x.walk, true, x.won⟩) else ((m08Set (RW.mk w.c w.ws w.st ((m07Make w.b x.thread x.op).1)) ((m07Make w.b x.thread x.op).2.1) (pPack x.walk.curr false)), ⟨x.op, x.thread, 4, (m07Make w.b x.thread x.op).2.1, x.linked, x.walk, x.done, x.won⟩)) else ((m08Set w x.node (pPack x.walk.curr false)), ⟨x.op, x.thread, 4, x.node, x.linked, x.walk, x.done, x.won⟩))
theorem k11_lay (w : RW) (rw : RX) (x : PutR) (W : World) (hW : WAt W w rw) : Calls Try.prog 76 #[.agg (encW w rw).toArray, .agg (encPut x).toArray] W (fun e W' => ∃ r0 : RX, e = .returned (.tuple #[.agg (encW ((m11Lay w x).1) r0).toArray, .agg (encPut (m11Lay w x).2).toArray]) ∧ WAt W' (m11Lay w x).1 r0 ∧ FreshIn [wRep w rw] W (wRep (m11Lay w x).1 r0) ∧ Below W.heap.size W W') := by
 refine rf_enter (args := [.agg (encW w rw).toArray, .agg (encPut x).toArray]) [wRep w rw] Try.func76 rfl (by intro r hr; obtain rfl := List.mem_singleton.mp hr; exact hW) ?_
 refine rX 14 ?_
 refine qI (x.node == 0) (fun h1 => ?_) (fun h1 => ?_)
 ·refine rZ 8 ?_
  refine qC [.agg (encB w.b rw.r).toArray, .int .i64 x.thread, .int .i64 x.op] fun W_ hT_ hR_ => (k07_Make _ _ _ _ _ (wget hR_ 0 rfl).b).mono ?_
  rintro e_ W1_ ⟨rx2_, rfl, hw2_, hf2_, hb_⟩
  refine ⟨_, [bRep ((m07Make w.b x.thread x.op).1) rx2_], rfl, hb_, (NewOk.cons hw2_ (hf2_.one (fun k_ => (fun h_ => ⟨_, mG 0 rfl, (.inr h_)⟩))) NewOk.nil), ?_⟩
  refine rZ 15 ?_
  refine qI ((m07Make w.b x.thread x.op).2.2 != 0) (fun h3 => ?_) (fun h3 => ?_)
  ·refine rZ 6 ?_
   refine qD k11_lay.T5 [0, 0, 1, 7] [] [0, 1] [] ?_
   refine rO [0, 1, 2, 3] ?_
   refine rZ 7 ?_
   obtain ⟨m_, hq_, hm_⟩ := nm (m11Lay w x)
   unfold m11Lay at hm_
   simp only [bT h1, bT h3] at hm_
   refine qR [.agg (encW m_.1 rw).toArray, .agg (encPut m_.2).toArray] (fun W1_ hT_ hR_ hF_ => ?_) (h := by rewrite [← hm_]; kernel_rfl)
   rw [hq_, ← hm_]
   exact ⟨_, rfl, (wget hR_ 1 rfl), (fun k_ => (fun h_ => hF_ _ (mG 1 rfl) k_ h_)), hT_.below⟩
  ·refine rZ 18 ?_
   refine qD k11_lay.T9 [0, 0, 2, 0, 8, 24, 56, 127, 0, 255, 1023] [] [0, 1] [] ?_
   refine rO [0, 1, 2, 3, 4, 5, 8, 6, 7, 9, 10] ?_
   refine rZ 8 ?_
   refine qV [.int .i64 x.walk.curr, .bool false] (fun W_ hT_ hR_ => c01_Pack x.walk.curr false _) ?_
   refine rZ 1 ?_
   refine qC [.agg (encW (RW.mk w.c w.ws w.st ((m07Make w.b x.thread x.op).1)) (RX.mk rw.A rw.C rx2_)).toArray, .int .i64 ((m07Make w.b x.thread x.op).2.1), .int .u64 (pPack x.walk.curr false)] fun W_ hT_ hR_ => (k08_Set (RW.mk w.c w.ws w.st ((m07Make w.b x.thread x.op).1)) (RX.mk rw.A rw.C rx2_) _ _ _ ⟨(wget hR_ 1 rfl).m, (wget hR_ 1 rfl).l, (wget hR_ 1 rfl).s, (bget hR_ 0 rfl)⟩).mono ?_
   rintro e_ W1_ ⟨rx4_, rfl, hw4_, hf4_, hb_⟩
   refine ⟨_, [wRep (m08Set (RW.mk w.c w.ws w.st ((m07Make w.b x.thread x.op).1)) ((m07Make w.b x.thread x.op).2.1) (pPack x.walk.curr false)) rx4_], rfl, hb_, (NewOk.cons hw4_ (hf4_.one (fun k_ => (fun h_ => h_.elim (fun h_ => ⟨_, mG 1 rfl, (.inl h_)⟩) (fun h_ => ⟨_, mG 0 rfl, h_⟩)))) NewOk.nil), ?_⟩
   refine rZ 5 ?_
   obtain ⟨m_, hq_, hm_⟩ := nm (m11Lay w x)
   unfold m11Lay at hm_
   simp only [bT h1, bF h3] at hm_
   refine qR [.agg (encW m_.1 rx4_).toArray, .agg (encPut m_.2).toArray] (fun W1_ hT_ hR_ hF_ => ?_) (h := by rewrite [← hm_]; kernel_rfl)
   rw [hq_, ← hm_]
   exact ⟨_, rfl, (wget hR_ 0 rfl), (fun k_ => (fun h_ => hF_ _ (mG 0 rfl) k_ h_)), hT_.below⟩
 ·refine rZ 7 ?_
  refine qD k11_lay.T9 [0, 0, 2, 0, 8, 24, 56, 127, 0, 255, 1023] [] [0, 1] [] ?_
  refine rO [0, 1, 2, 3, 4, 5, 8, 6, 7, 9, 10] ?_
  refine rZ 8 ?_
  refine qV [.int .i64 x.walk.curr, .bool false] (fun W_ hT_ hR_ => c01_Pack x.walk.curr false _) ?_
  refine rZ 1 ?_
  refine qC [.agg (encW w rw).toArray, .int .i64 x.node, .int .u64 (pPack x.walk.curr false)] fun W_ hT_ hR_ => (k08_Set _ _ _ _ _ (wget hR_ 0 rfl)).mono ?_
  rintro e_ W1_ ⟨rx5_, rfl, hw5_, hf5_, hb_⟩
  refine ⟨_, [wRep (m08Set w x.node (pPack x.walk.curr false)) rx5_], rfl, hb_, (NewOk.cons hw5_ (hf5_.one (fun k_ => (fun h_ => ⟨_, mG 0 rfl, h_⟩))) NewOk.nil), ?_⟩
  refine rZ 5 ?_
  obtain ⟨m_, hq_, hm_⟩ := nm (m11Lay w x)
  unfold m11Lay at hm_
  simp only [bF h1] at hm_
  refine qR [.agg (encW m_.1 rx5_).toArray, .agg (encPut m_.2).toArray] (fun W1_ hT_ hR_ hF_ => ?_) (h := by rewrite [← hm_]; kernel_rfl)
  rw [hq_, ← hm_]
  exact ⟨_, rfl, (wget hR_ 0 rfl), (fun k_ => (fun h_ => hF_ _ (mG 0 rfl) k_ h_)), hT_.below⟩
def m11New (a : Int) (b : Int) : PutR := ⟨a, b, 0, 0, false, zWalkR, false, false⟩
theorem k11_New (a : Int) (b : Int) (W : World) : Calls Try.prog 64 #[.int .i64 a, .int .i64 b] W (fun e W' => e = .returned (.agg (encPut (m11New a b)).toArray) ∧ Below W.heap.size W W') := by
 refine rf_enter (args := [.int .i64 a, .int .i64 b]) [] Try.func64 rfl (by simp) ?_
 refine rX 11 ?_
 obtain ⟨m_, hq_, hm_⟩ := nm (m11New a b)
 unfold m11New at hm_
 refine qR [.agg (encPut m_).toArray] (fun W1_ hT_ hR_ hF_ => ?_) (h := by rewrite [← hm_]; kernel_rfl)
 rw [hq_, ← hm_]
 exact ⟨rfl, hT_.below⟩
def k11_Step.T2 : Bool × List (List Nat × List Nat) := (true, [([], []), ([], []), ([0, 0], [0]), ([1, 2, 0, 1, 2], [1])])
def k11_Step.T7 : Bool × List (List Nat × List Nat) := (true, [([], []), ([], []), ([], []), ([], []), ([1, 2, 3], [1, 2, 3]), ([0, 4, 0], [0]), ([4, 5, 0, 1, 2, 3, 4, 5], [4])])
def k11_Step.T16 : Bool × List (List Nat × List Nat) := (true, [([], []), ([], []), ([0, 0], [0]), ([1, 2, 0, 1, 2], [1])])
def k11_Step.T20 : Bool × List (List Nat × List Nat) := (true, [([], []), ([], []), ([1], [1]), ([2], [2]), ([], []), ([4], [4]), ([5], [5]), ([6], [6]), ([], []), ([8], [8]), ([9, 7], [9]), ([0, 3, 7, 10, 10], [0, 3, 7, 10]), ([11], [11]), ([12], [12]), ([12], [12]), ([], []), ([15, 13, 11, 0, 1, 2, 3, 4, 5, 6, 7, 8, 9, 10, 11, 12, 13, 15], [13, 15]), ([14, 16, 0, 1, 2, 3, 4, 5, 6, 7, 8, 9, 10, 11, 12, 13, 14, 15, 16], [14])])
def k11_Step.T23 : Bool × List (List Nat × List Nat) := (true, [([], []), ([], []), ([0, 0], [0]), ([1, 2, 0, 1, 2], [1])])
def k11_Step.T25 : Bool × List (List Nat × List Nat) := (true, [([], []), ([], []), ([0, 0], [0]), ([1, 2, 0, 1, 2], [1])])
def k11_Step.c1 (w : RW) (rw : RX) (x : PutR) (x_ : RX) : St := match x_ with | rx22_ => ⟨[some ⟨true, 37, (encW w rw).map .v⟩, some ⟨true, 72, (encPut x).map .v⟩, some ⟨true, 37, (encW (RW.mk ⟨0, 0, 0, 0, 0⟩ [] 0 (RB.mk ⟨0, 0, 0, 0, 0⟩ [] [] [] [] [])) (RX.mk none 0 (RA.mk none none none none none 0 0 0 0 0))).map .v⟩, some ⟨true, 72, (encPut zPutR).map .v⟩, some ⟨true, 37, (encW ((m08Link w x.walk.pred (pPack x.walk.curr false) (pPack x.node false)).1) rx22_).map .v⟩], [.v (.agg (encW w rw).toArray), .v (.agg (encPut x).toArray), .ad 0 0, .ad 1 0, .ad 2 0, .ad 3 0, .v (undef), .v (undef), .v (undef), .v (undef), .ad 4 0, .v (.bool ((m08Link w x.walk.pred (pPack x.walk.curr false) (pPack x.node false)).2)), .ad 1 15, .v (.bool x.done), .v (undef), .v (undef), .ad 1 2, .v (.int .i64 x.phase), .v (.bool (x.phase == 2)), .v (.bool (x.phase == 0)), .v (.bool (x.phase == 2)), .v (undef), .v (undef), .v (undef), .v (undef), .v (undef), .v (undef), .v (undef), .v (undef), .v (undef), .v (undef), .v (undef), .v (undef), .v (.bool (x.phase == 5)), .v (.bool (x.phase == 1)), .v (.bool (x.phase == 5)), .v (undef), .v (undef), .v (undef), .v (undef), .v (undef), .v (undef), .v (undef), .v (undef), .v (undef), .v (undef), .v (undef), .v (undef), .v (undef), .v (undef), .v (undef), .v (undef), .v (undef), .v (undef), .v (undef), .v (undef), .v (undef), .v (undef), .v (.bool (x.phase == 3)), .v (.bool (x.phase == 3)), .v (undef), .v (undef), .v (undef), .v (undef), .v (undef), .v (.bool (x.phase == 4)), .v (.bool (x.phase == 4)), .v (.tuple #[.agg (encW ((m08Link w x.walk.pred (pPack x.walk.curr false) (pPack x.node false)).1) rx22_).toArray, .bool ((m08Link w x.walk.pred (pPack x.walk.curr false) (pPack x.node false)).2)]), .v (.agg (encW w rw).toArray), .ad 1 5, .ad 1 8, .v (.int .i64 x.walk.pred), .ad 1 5, .ad 1 9, .v (.int .i64 x.walk.curr), .v (.int .u64 (pPack x.walk.curr false)), .ad 1 3, .v (.int .i64 x.node), .v (.int .u64 (pPack x.node false)), .v (.tuple #[.agg (encW ((m08Link w x.walk.pred (pPack x.walk.curr false) (pPack x.node false)).1) rx22_).toArray, .bool ((m08Link w x.walk.pred (pPack x.walk.curr false) (pPack x.node false)).2)]), .v (.agg (encW ((m08Link w x.walk.pred (pPack x.walk.curr false) (pPack x.node false)).1) rx22_).toArray), .v (.bool ((m08Link w x.walk.pred (pPack x.walk.curr false) (pPack x.node false)).2)), .v (undef), .v (undef), .v (undef), .v (undef), .v (undef), .v (undef), .v (undef), .v (undef), .v (undef), .v (undef), .v (undef), .v (undef)]⟩
def k11_Step.r1 (w : RW) (rw : RX) (x : PutR) (x_ : RX) : List PRep := match x_ with | rx22_ => [wRep ((m08Link w x.walk.pred (pPack x.walk.curr false) (pPack x.node false)).1) rx22_, wRep w rw]
def m11Step (w : RW) (x : PutR) : RW × PutR := (bif x.done then (w, x) else (bif (x.phase == 0) then ((m08Word w x.op).1, (m11Told ((m08Word w x.op).1) x ((m08Word w x.op).2))) else (bif (x.phase == 2) then ((m08Word w x.op).1, (m11Told ((m08Word w x.op).1) x ((m08Word w x.op).2))) else (bif (x.phase == 1) then (bif ((m10Step w x.walk).2).done then ((m10Step w x.walk).1, ⟨x.op, x.thread, 2, x.node, x.linked, (m10Step w x.walk).2, x.done, x.won⟩) else ((m10Step w x.walk).1, ⟨x.op, x.thread, x.phase, x.node, x.linked, (m10Step w x.walk).2, x.done, x.won⟩)) else (bif (x.phase == 5) then (bif ((m10Step w x.walk).2).done then ((m10Step w x.walk).1, ⟨x.op, x.thread, x.phase, x.node, x.linked, (m10Step w x.walk).2, true, x.won⟩) else ((m10Step w x.walk).1, ⟨x.op, x.thread, x.phase, x.node, x.linked, (m10Step w x.walk).2, x.done, x.won⟩)) else (bif (x.phase == 3) then ((m11Lay w x).1, (m11Lay w x).2) else (bif (x.phase == 4) then (bif x.linked then ((m08Link w x.walk.pred (pPack x.walk.curr false) (pPack x.node false)).1, ⟨x.op, x.thread, 0, x.node, true, x.walk, x.done, x.won⟩) else ((m08Link w x.walk.pred (pPack x.walk.curr false) (pPack x.node false)).1, ⟨x.op, x.thread, 0, x.node, (m08Link w x.walk.pred (pPack x.walk.curr false) (pPack x.node false)).2, x.walk, x.done, x.won⟩)) else (w, ⟨x.op, x.thread, x.phase, x.node, x.linked, x.walk, true, x.won⟩))))))))
theorem k11_Step (w : RW) (rw : RX) (x : PutR) (W : World) (hW : WAt W w rw) : Calls Try.prog 71 #[.agg (encW w rw).toArray, .agg (encPut x).toArray] W (fun e W' => ∃ r0 : RX, e = .returned (.tuple #[.agg (encW ((m11Step w x).1) r0).toArray, .agg (encPut (m11Step w x).2).toArray]) ∧ WAt W' (m11Step w x).1 r0 ∧ FreshIn [wRep w rw] W (wRep (m11Step w x).1 r0) ∧ Below W.heap.size W W') := by
 refine rf_enter (args := [.agg (encW w rw).toArray, .agg (encPut x).toArray]) [wRep w rw] Try.func71 rfl (by intro r hr; obtain rfl := List.mem_singleton.mp hr; exact hW) ?_
 refine rX 13 ?_
 refine qI x.done (fun h1 => ?_) (fun h1 => ?_)
 ·refine rZ 1 ?_
  refine qD k11_Step.T2 [0, 0, 1, 7] [] [0, 1] [] ?_
  refine rO [0, 1, 2, 3] ?_
  refine rZ 7 ?_
  obtain ⟨m_, hq_, hm_⟩ := nm (m11Step w x)
  unfold m11Step at hm_
  simp only [bT h1] at hm_
  refine qR [.agg (encW m_.1 rw).toArray, .agg (encPut m_.2).toArray] (fun W1_ hT_ hR_ hF_ => ?_) (h := by rewrite [← hm_]; kernel_rfl)
  rw [hq_, ← hm_]
  exact ⟨_, rfl, (wget hR_ 0 rfl), (fun k_ => (fun h_ => hF_ _ (mG 0 rfl) k_ h_)), hT_.below⟩
 ·refine rZ 14 ?_
  refine qI (x.phase == 0) (fun h2 => ?_) (fun h2 => ?_)
  ·refine rZ 1 ?_
   refine qI (x.phase == 0) (fun hx_ => ?_) (fun hx_ => by rw [h2] at hx_; cases hx_)
   clear hx_
   refine rZ 5 ?_
   refine qC [.agg (encW w rw).toArray, .int .i64 x.op] fun W_ hT_ hR_ => (k08_Word _ _ _ _ (wget hR_ 0 rfl)).mono ?_
   rintro e_ W1_ ⟨rx4_, rfl, hw4_, hf4_, hb_⟩
   refine ⟨_, [wRep ((m08Word w x.op).1) rx4_], rfl, hb_, (NewOk.cons hw4_ (hf4_.one (fun k_ => (fun h_ => ⟨_, mG 0 rfl, h_⟩))) NewOk.nil), ?_⟩
   refine rZ 8 ?_
   refine qD k11_Step.T7 [0, 0, 0, 0, 14, 31, 63] [] [4, 1] [] ?_
   refine rO [0, 1, 2, 3, 4, 5, 6] ?_
   refine rZ 5 ?_
   refine qV [.agg (encW ((m08Word w x.op).1) rx4_).toArray, .agg (encPut x).toArray, .int .u64 ((m08Word w x.op).2)] (fun W_ hT_ hR_ => k11_told _ _ _ _ _ (wget hR_ 0 rfl)) ?_
   refine rZ 5 ?_
   obtain ⟨m_, hq_, hm_⟩ := nm (m11Step w x)
   unfold m11Step at hm_
   simp only [bF h1, bT h2] at hm_
   refine qR [.agg (encW m_.1 rx4_).toArray, .agg (encPut m_.2).toArray] (fun W1_ hT_ hR_ hF_ => ?_) (h := by rewrite [← hm_]; kernel_rfl)
   rw [hq_, ← hm_]
   exact ⟨_, rfl, (wget hR_ 0 rfl), (fun k_ => (fun h_ => hF_ _ (mG 0 rfl) k_ h_)), hT_.below⟩
  ·refine rZ 4 ?_
   refine qI (x.phase == 2) (fun h5 => ?_) (fun h5 => ?_)
   ·refine rZ 5 ?_
    refine qC [.agg (encW w rw).toArray, .int .i64 x.op] fun W_ hT_ hR_ => (k08_Word _ _ _ _ (wget hR_ 0 rfl)).mono ?_
    rintro e_ W1_ ⟨rx6_, rfl, hw6_, hf6_, hb_⟩
    refine ⟨_, [wRep ((m08Word w x.op).1) rx6_], rfl, hb_, (NewOk.cons hw6_ (hf6_.one (fun k_ => (fun h_ => ⟨_, mG 0 rfl, h_⟩))) NewOk.nil), ?_⟩
    refine rZ 8 ?_
    refine qD k11_Step.T7 [0, 0, 0, 0, 14, 31, 63] [] [4, 1] [] ?_
    refine rO [0, 1, 2, 3, 4, 5, 6] ?_
    refine rZ 5 ?_
    refine qV [.agg (encW ((m08Word w x.op).1) rx6_).toArray, .agg (encPut x).toArray, .int .u64 ((m08Word w x.op).2)] (fun W_ hT_ hR_ => k11_told _ _ _ _ _ (wget hR_ 0 rfl)) ?_
    refine rZ 5 ?_
    obtain ⟨m_, hq_, hm_⟩ := nm (m11Step w x)
    unfold m11Step at hm_
    simp only [bF h1, bF h2, bT h5] at hm_
    refine qR [.agg (encW m_.1 rx6_).toArray, .agg (encPut m_.2).toArray] (fun W1_ hT_ hR_ hF_ => ?_) (h := by rewrite [← hm_]; kernel_rfl)
    rw [hq_, ← hm_]
    exact ⟨_, rfl, (wget hR_ 0 rfl), (fun k_ => (fun h_ => hF_ _ (mG 0 rfl) k_ h_)), hT_.below⟩
   ·refine rZ 6 ?_
    refine qI (x.phase == 1) (fun h7 => ?_) (fun h7 => ?_)
    ·refine rZ 1 ?_
     refine qI (x.phase == 1) (fun hx_ => ?_) (fun hx_ => by rw [h7] at hx_; cases hx_)
     clear hx_
     refine rZ 5 ?_
     refine qC [.agg (encW w rw).toArray, .agg (encWalk x.walk).toArray] fun W_ hT_ hR_ => (k10_Step _ _ _ _ (wget hR_ 0 rfl)).mono ?_
     rintro e_ W1_ ⟨rx9_, rfl, hw9_, hf9_, hb_⟩
     refine ⟨_, [wRep ((m10Step w x.walk).1) rx9_], rfl, hb_, (NewOk.cons hw9_ (hf9_.one (fun k_ => (fun h_ => ⟨_, mG 0 rfl, h_⟩))) NewOk.nil), ?_⟩
     refine rZ 20 ?_
     refine qS 47 ((m10Step w x.walk).2).done (fun h10 => ?_) (fun h10 => ?_)
     ·refine rZ 5 ?_
      refine qI (x.phase == 1) (fun hx_ => ?_) (fun hx_ => by rw [h7] at hx_; cases hx_)
      clear hx_
      refine rZ 5 ?_
      refine qD k11_Step.T16 [0, 0, 1, 7] [] [4, 1] [] ?_
      refine rO [0, 1, 2, 3] ?_
      refine rZ 7 ?_
      obtain ⟨m_, hq_, hm_⟩ := nm (m11Step w x)
      unfold m11Step at hm_
      simp only [bF h1, bF h2, bF h5, bT h7, bT h10] at hm_
      refine qR [.agg (encW m_.1 rx9_).toArray, .agg (encPut m_.2).toArray] (fun W1_ hT_ hR_ hF_ => ?_) (h := by rewrite [← hm_]; kernel_rfl)
      rw [hq_, ← hm_]
      exact ⟨_, rfl, (wget hR_ 0 rfl), (fun k_ => (fun h_ => hF_ _ (mG 0 rfl) k_ h_)), hT_.below⟩
     ·refine rZ 11 ?_
      refine qI ((m10Step w x.walk).2).done (fun hx_ => by rw [h10] at hx_; cases hx_) (fun hx_ => ?_)
      clear hx_
      refine rZ 2 ?_
      refine qD k11_Step.T16 [0, 0, 1, 7] [] [4, 1] [] ?_
      refine rO [0, 1, 2, 3] ?_
      refine rZ 7 ?_
      obtain ⟨m_, hq_, hm_⟩ := nm (m11Step w x)
      unfold m11Step at hm_
      simp only [bF h1, bF h2, bF h5, bT h7, bF h10] at hm_
      refine qR [.agg (encW m_.1 rx9_).toArray, .agg (encPut m_.2).toArray] (fun W1_ hT_ hR_ hF_ => ?_) (h := by rewrite [← hm_]; kernel_rfl)
      rw [hq_, ← hm_]
      exact ⟨_, rfl, (wget hR_ 0 rfl), (fun k_ => (fun h_ => hF_ _ (mG 0 rfl) k_ h_)), hT_.below⟩
    ·refine rZ 4 ?_
     refine qI (x.phase == 5) (fun h13 => ?_) (fun h13 => ?_)
     ·refine rZ 5 ?_
      refine qC [.agg (encW w rw).toArray, .agg (encWalk x.walk).toArray] fun W_ hT_ hR_ => (k10_Step _ _ _ _ (wget hR_ 0 rfl)).mono ?_
      rintro e_ W1_ ⟨rx14_, rfl, hw14_, hf14_, hb_⟩
      refine ⟨_, [wRep ((m10Step w x.walk).1) rx14_], rfl, hb_, (NewOk.cons hw14_ (hf14_.one (fun k_ => (fun h_ => ⟨_, mG 0 rfl, h_⟩))) NewOk.nil), ?_⟩
      refine rZ 20 ?_
      refine qS 47 ((m10Step w x.walk).2).done (fun h15 => ?_) (fun h15 => ?_)
      ·refine rZ 5 ?_
       refine qI (x.phase == 1) (fun hx_ => by rw [h7] at hx_; cases hx_) (fun hx_ => ?_)
       clear hx_
       refine rZ 5 ?_
       refine qI ((m10Step w x.walk).2).done (fun hx_ => ?_) (fun hx_ => by rw [h15] at hx_; cases hx_)
       clear hx_
       refine rZ 5 ?_
       refine qD k11_Step.T16 [0, 0, 1, 7] [] [4, 1] [] ?_
       refine rO [0, 1, 2, 3] ?_
       refine rZ 7 ?_
       obtain ⟨m_, hq_, hm_⟩ := nm (m11Step w x)
       unfold m11Step at hm_
       simp only [bF h1, bF h2, bF h5, bF h7, bT h13, bT h15] at hm_
       refine qR [.agg (encW m_.1 rx14_).toArray, .agg (encPut m_.2).toArray] (fun W1_ hT_ hR_ hF_ => ?_) (h := by rewrite [← hm_]; kernel_rfl)
       rw [hq_, ← hm_]
       exact ⟨_, rfl, (wget hR_ 0 rfl), (fun k_ => (fun h_ => hF_ _ (mG 0 rfl) k_ h_)), hT_.below⟩
      ·refine rZ 11 ?_
       refine qI ((m10Step w x.walk).2).done (fun hx_ => by rw [h15] at hx_; cases hx_) (fun hx_ => ?_)
       clear hx_
       refine rZ 2 ?_
       refine qD k11_Step.T16 [0, 0, 1, 7] [] [4, 1] [] ?_
       refine rO [0, 1, 2, 3] ?_
       refine rZ 7 ?_
       obtain ⟨m_, hq_, hm_⟩ := nm (m11Step w x)
       unfold m11Step at hm_
       simp only [bF h1, bF h2, bF h5, bF h7, bT h13, bF h15] at hm_
       refine qR [.agg (encW m_.1 rx14_).toArray, .agg (encPut m_.2).toArray] (fun W1_ hT_ hR_ hF_ => ?_) (h := by rewrite [← hm_]; kernel_rfl)
       rw [hq_, ← hm_]
       exact ⟨_, rfl, (wget hR_ 0 rfl), (fun k_ => (fun h_ => hF_ _ (mG 0 rfl) k_ h_)), hT_.below⟩
     ·refine rZ 5 ?_
      refine qI (x.phase == 3) (fun h19 => ?_) (fun h19 => ?_)
      ·refine rZ 4 ?_
       refine qC [.agg (encW w rw).toArray, .agg (encPut x).toArray] fun W_ hT_ hR_ => (k11_lay _ _ _ _ (wget hR_ 0 rfl)).mono ?_
       rintro e_ W1_ ⟨rx20_, rfl, hw20_, hf20_, hb_⟩
       refine ⟨_, [wRep ((m11Lay w x).1) rx20_], rfl, hb_, (NewOk.cons hw20_ (hf20_.one (fun k_ => (fun h_ => ⟨_, mG 0 rfl, h_⟩))) NewOk.nil), ?_⟩
       refine rZ 5 ?_
       obtain ⟨m_, hq_, hm_⟩ := nm (m11Step w x)
       unfold m11Step at hm_
       simp only [bF h1, bF h2, bF h5, bF h7, bF h13, bT h19] at hm_
       refine qR [.agg (encW m_.1 rx20_).toArray, .agg (encPut m_.2).toArray] (fun W1_ hT_ hR_ hF_ => ?_) (h := by rewrite [← hm_]; kernel_rfl)
       rw [hq_, ← hm_]
       exact ⟨_, rfl, (wget hR_ 0 rfl), (fun k_ => (fun h_ => hF_ _ (mG 0 rfl) k_ h_)), hT_.below⟩
      ·refine rZ 5 ?_
       refine qI (x.phase == 4) (fun h21 => ?_) (fun h21 => ?_)
       ·refine rZ 1 ?_
        refine qK (k11_Step.c1 w rw x) (k11_Step.r1 w rw x) (fun _ => True) ?_ ?_
        ·refine qD k11_Step.T20 [0, 0, 2, 6, 0, 16, 48, 112, 0, 256, 1008, 2047, 4095, 8191, 8191, 0, 49151, 131071] [16] [0, 1] [] ?_
         refine rO [0, 1, 2, 3, 4, 5, 6, 8, 9] ?_
         refine rZ 9 ?_
         refine qF 7 15 ?_ ?_
         ·refine rO [] ?_
          refine qV [.int .i64 x.walk.curr, .bool false] (fun W_ hT_ hR_ => c01_Pack x.walk.curr false _) ?_
          refine qF 10 15 ?_ ?_
          ·refine rO [] ?_
           refine qV [.int .i64 x.node, .bool false] (fun W_ hT_ hR_ => c01_Pack x.node false _) ?_
           refine qF 11 15 ?_ ?_
           ·refine rO [12, 13, 14, 15, 16, 17] ?_
            refine qC [.agg (encW w rw).toArray, .int .i64 x.walk.pred, .int .u64 (pPack x.walk.curr false), .int .u64 (pPack x.node false)] fun W_ hT_ hR_ => (k08_Link _ _ _ _ _ _ (wget hR_ 0 rfl)).mono ?_
            rintro e_ W1_ ⟨rx22_, rfl, hw22_, hf22_, hb_⟩
            refine ⟨_, [wRep ((m08Link w x.walk.pred (pPack x.walk.curr false) (pPack x.node false)).1) rx22_], rfl, hb_, (NewOk.cons hw22_ (hf22_.one (fun k_ => (fun h_ => ⟨_, mG 0 rfl, h_⟩))) NewOk.nil), ?_⟩
            refine rZ 9 ?_
            exact qJ (k11_Step.c1 w rw x) (k11_Step.r1 w rw x) (fun _ => True) rx22_ trivial (by simp [k11_Step.r1])
           ·refine rO [11, 12, 13, 14, 16, 17] ?_
            refine rZ 2 ?_
            refine qC [.agg (encW w rw).toArray, .int .i64 x.walk.pred, .int .u64 (pPack x.walk.curr false), .int .u64 (pPack x.node false)] fun W_ hT_ hR_ => (k08_Link _ _ _ _ _ _ (wget hR_ 0 rfl)).mono ?_
            rintro e_ W1_ ⟨rx23_, rfl, hw23_, hf23_, hb_⟩
            refine ⟨_, [wRep ((m08Link w x.walk.pred (pPack x.walk.curr false) (pPack x.node false)).1) rx23_], rfl, hb_, (NewOk.cons hw23_ (hf23_.one (fun k_ => (fun h_ => ⟨_, mG 0 rfl, h_⟩))) NewOk.nil), ?_⟩
            refine rZ 7 ?_
            exact qJ (k11_Step.c1 w rw x) (k11_Step.r1 w rw x) (fun _ => True) rx23_ trivial (by simp [k11_Step.r1])
          ·refine rO [10, 11, 12, 13, 14, 16, 17] ?_
           refine rZ 2 ?_
           refine qV [.int .i64 x.node, .bool false] (fun W_ hT_ hR_ => c01_Pack x.node false _) ?_
           refine rZ 1 ?_
           refine qC [.agg (encW w rw).toArray, .int .i64 x.walk.pred, .int .u64 (pPack x.walk.curr false), .int .u64 (pPack x.node false)] fun W_ hT_ hR_ => (k08_Link _ _ _ _ _ _ (wget hR_ 0 rfl)).mono ?_
           rintro e_ W1_ ⟨rx24_, rfl, hw24_, hf24_, hb_⟩
           refine ⟨_, [wRep ((m08Link w x.walk.pred (pPack x.walk.curr false) (pPack x.node false)).1) rx24_], rfl, hb_, (NewOk.cons hw24_ (hf24_.one (fun k_ => (fun h_ => ⟨_, mG 0 rfl, h_⟩))) NewOk.nil), ?_⟩
           refine rZ 7 ?_
           exact qJ (k11_Step.c1 w rw x) (k11_Step.r1 w rw x) (fun _ => True) rx24_ trivial (by simp [k11_Step.r1])
         ·refine rO [7, 10, 11, 12, 13, 14, 16, 17] ?_
          refine rZ 2 ?_
          refine qV [.int .i64 x.walk.curr, .bool false] (fun W_ hT_ hR_ => c01_Pack x.walk.curr false _) ?_
          refine rZ 1 ?_
          refine qV [.int .i64 x.node, .bool false] (fun W_ hT_ hR_ => c01_Pack x.node false _) ?_
          refine rZ 1 ?_
          refine qC [.agg (encW w rw).toArray, .int .i64 x.walk.pred, .int .u64 (pPack x.walk.curr false), .int .u64 (pPack x.node false)] fun W_ hT_ hR_ => (k08_Link _ _ _ _ _ _ (wget hR_ 0 rfl)).mono ?_
          rintro e_ W1_ ⟨rx25_, rfl, hw25_, hf25_, hb_⟩
          refine ⟨_, [wRep ((m08Link w x.walk.pred (pPack x.walk.curr false) (pPack x.node false)).1) rx25_], rfl, hb_, (NewOk.cons hw25_ (hf25_.one (fun k_ => (fun h_ => ⟨_, mG 0 rfl, h_⟩))) NewOk.nil), ?_⟩
          refine rZ 7 ?_
          exact qJ (k11_Step.c1 w rw x) (k11_Step.r1 w rw x) (fun _ => True) rx25_ trivial (by simp [k11_Step.r1])
        ·rintro rx22_ -
         refine rZ 5 ?_
         refine qS 84 x.linked (fun h26 => ?_) (fun h26 => ?_)
         ·refine rZ 11 ?_
          refine qD k11_Step.T23 [0, 0, 1, 7] [] [4, 1] [] ?_
          refine rO [0, 1, 2, 3] ?_
          refine rZ 7 ?_
          obtain ⟨m_, hq_, hm_⟩ := nm (m11Step w x)
          unfold m11Step at hm_
          simp only [bF h1, bF h2, bF h5, bF h7, bF h13, bF h19, bT h21, bT h26] at hm_
          refine qR [.agg (encW m_.1 rx22_).toArray, .agg (encPut m_.2).toArray] (fun W1_ hT_ hR_ hF_ => ?_) (h := by rewrite [← hm_]; kernel_rfl)
          rw [hq_, ← hm_]
          exact ⟨_, rfl, (wget hR_ 0 rfl), (fun k_ => (fun h_ => hF_ _ (mG 0 rfl) k_ h_)), hT_.below⟩
         ·refine rZ 11 ?_
          refine qD k11_Step.T23 [0, 0, 1, 7] [] [4, 1] [] ?_
          refine rO [0, 1, 2, 3] ?_
          refine rZ 7 ?_
          obtain ⟨m_, hq_, hm_⟩ := nm (m11Step w x)
          unfold m11Step at hm_
          simp only [bF h1, bF h2, bF h5, bF h7, bF h13, bF h19, bT h21, bF h26] at hm_
          refine qR [.agg (encW m_.1 rx22_).toArray, .agg (encPut m_.2).toArray] (fun W1_ hT_ hR_ hF_ => ?_) (h := by rewrite [← hm_]; kernel_rfl)
          rw [hq_, ← hm_]
          exact ⟨_, rfl, (wget hR_ 0 rfl), (fun k_ => (fun h_ => hF_ _ (mG 0 rfl) k_ h_)), hT_.below⟩
       ·refine rZ 8 ?_
        refine qD k11_Step.T25 [0, 0, 1, 7] [] [0, 1] [] ?_
        refine rO [0, 1, 2, 3] ?_
        refine rZ 7 ?_
        obtain ⟨m_, hq_, hm_⟩ := nm (m11Step w x)
        unfold m11Step at hm_
        simp only [bF h1, bF h2, bF h5, bF h7, bF h13, bF h19, bF h21] at hm_
        refine qR [.agg (encW m_.1 rw).toArray, .agg (encPut m_.2).toArray] (fun W1_ hT_ hR_ hF_ => ?_) (h := by rewrite [← hm_]; kernel_rfl)
        rw [hq_, ← hm_]
        exact ⟨_, rfl, (wget hR_ 0 rfl), (fun k_ => (fun h_ => hF_ _ (mG 0 rfl) k_ h_)), hT_.below⟩
end Go.Proofs.Ytbhakljebcmocaa.PBoundKeeps
end
section
namespace Go.Proofs.Ytbhakljebcmocaa.PBoundKeeps
open Go.RowKit Go.Proofs.YtbhakljebcmocaaW.PrintWords Go.Proofs.YtbhakljebcmocaaW.PrintLast Go.Proofs.YtbhakljebcmocaaW.PrintMore
set_option linter.unusedVariables false
set_option maxHeartbeats 1000000
set_option maxRecDepth 100000
set_option linter.unusedSimpArgs false
def m12Key (w : RW) (x : TakeR) : Int := (callF w.b x.op).f1
theorem k12_key (w : RW) (rw : RX) (x : TakeR) (W : World) (hW : WAt W w rw) : Calls Try.prog 93 #[.agg (encW w rw).toArray, .agg (encTake x).toArray] W (fun e W' => e = .returned (.int .u64 (m12Key w x)) ∧ Below W.heap.size W W') := by
 refine rf_enter (args := [.agg (encW w rw).toArray, .agg (encTake x).toArray]) [wRep w rw] Try.func93 rfl (by intro r hr; obtain rfl := List.mem_singleton.mp hr; exact hW) ?_
 refine rX 12 ?_
 refine qV [.agg (encB w.b rw.r).toArray, .int .i64 x.op] (fun W_ hT_ hR_ => c07_Call w.b rw.r x.op _ (wget hR_ 0 rfl).b) ?_
 refine rZ 13 ?_
 obtain ⟨m_, hq_, hm_⟩ := nm (m12Key w x)
 unfold m12Key at hm_
 refine qR [.int .u64 m_] (fun W1_ hT_ hR_ hF_ => ?_) (h := by rewrite [← hm_]; kernel_rfl)
 rw [hq_, ← hm_]
 exact ⟨rfl, hT_.below⟩
def k12_asks.T2 : Bool × List (List Nat × List Nat) := (true, [([], []), ([], []), ([1], [1]), ([2], [2]), ([0, 3, 3], [0, 3]), ([4], [4]), ([5], [5]), ([5], [5]), ([], []), ([8, 6, 4, 0, 1, 2, 3, 4, 5, 6, 8], [6, 8]), ([7, 9, 0, 1, 2, 3, 4, 5, 6, 7, 8, 9], [7])])
def k12_asks.T3 : Bool × List (List Nat × List Nat) := (true, [([], []), ([0], [0]), ([], []), ([2], [2]), ([1, 3], [1, 3]), ([0, 1, 2, 3, 4], []), ([5, 4, 1, 0, 1, 2, 3, 4], [4, 5])])
def k12_asks.T8 : Bool × List (List Nat × List Nat) := (true, [([], []), ([], []), ([0, 0], [0]), ([1, 2, 0, 1, 2], [1])])
def k12_asks.T17 : Bool × List (List Nat × List Nat) := (true, [([], []), ([], []), ([0, 0], [0]), ([1, 2, 0, 1, 2], [1])])
def k12_asks.c1 (w : RW) (rw : RX) (x : TakeR) (x_ : RX) : St := match x_ with | rx2_ => ⟨[some ⟨true, 37, (encW w rw).map .v⟩, some ⟨true, 74, (encTake x).map .v⟩, some ⟨true, 37, (encW (RW.mk ⟨0, 0, 0, 0, 0⟩ [] 0 (RB.mk ⟨0, 0, 0, 0, 0⟩ [] [] [] [] [])) (RX.mk none 0 (RA.mk none none none none none 0 0 0 0 0))).map .v⟩, some ⟨true, 74, (encTake zTakeR).map .v⟩, some ⟨true, 37, (encW ((m08Word w (pOf x.want)).1) rx2_).map .v⟩], [.v (.agg (encW w rw).toArray), .v (.agg (encTake x).toArray), .ad 0 0, .ad 1 0, .ad 2 0, .ad 3 0, .ad 4 0, .v (.int .u64 ((m08Word w (pOf x.want)).2)), .v (undef), .v (undef), .ad 1 2, .v (.int .i64 x.phase), .v (.bool (x.phase == 4)), .v (.tuple #[.agg (encW ((m08Word w (pOf x.want)).1) rx2_).toArray, .int .u64 ((m08Word w (pOf x.want)).2)]), .v (.agg (encW w rw).toArray), .ad 1 3, .v (.int .u64 x.want), .v (.int .i64 (pOf x.want)), .v (.tuple #[.agg (encW ((m08Word w (pOf x.want)).1) rx2_).toArray, .int .u64 ((m08Word w (pOf x.want)).2)]), .v (.agg (encW ((m08Word w (pOf x.want)).1) rx2_).toArray), .v (.int .u64 ((m08Word w (pOf x.want)).2)), .v (undef), .v (undef), .v (undef), .v (undef), .v (undef), .v (undef), .v (undef), .v (undef), .v (undef), .v (undef), .v (undef), .v (undef), .v (undef), .v (undef), .v (undef), .v (undef), .v (undef), .v (undef), .v (undef), .v (undef), .v (undef), .v (undef), .v (undef), .v (undef), .v (undef), .v (undef), .v (undef), .v (undef), .v (undef), .v (undef), .v (undef), .v (undef), .v (undef), .v (undef), .v (undef), .v (undef), .v (undef), .v (undef), .v (undef), .v (undef), .v (undef), .v (undef), .v (undef), .v (undef)]⟩
def k12_asks.r1 (w : RW) (rw : RX) (x : TakeR) (x_ : RX) : List PRep := match x_ with | rx2_ => [wRep ((m08Word w (pOf x.want)).1) rx2_, wRep w rw]
def m12Asks (w : RW) (x : TakeR) : RW × TakeR := (bif (x.phase == 4) then (bif ((pBy ((m08Word w (pOf x.want)).2)) == x.op) then (bif x.own then ((m08Word w (pOf x.want)).1, ⟨x.op, x.own, 5, x.want, (m10New (m12Key ((m08Word w (pOf x.want)).1) ⟨x.op, x.own, x.phase, x.want, x.walk, x.done, ((pBy ((m08Word w (pOf x.want)).2)) == x.op)⟩) 3), x.done, ((pBy ((m08Word w (pOf x.want)).2)) == x.op)⟩) else ((m08Word w (pOf x.want)).1, ⟨x.op, x.own, x.phase, x.want, x.walk, true, ((pBy ((m08Word w (pOf x.want)).2)) == x.op)⟩)) else ((m08Word w (pOf x.want)).1, ⟨x.op, x.own, x.phase, x.want, x.walk, true, ((pBy ((m08Word w (pOf x.want)).2)) == x.op)⟩)) else (bif ((m08Word w x.op).2 == 0) then ((m08Word w x.op).1, ⟨x.op, x.own, 1, (m08Word w x.op).2, (m10New (m12Key ((m08Word w x.op).1) ⟨x.op, x.own, x.phase, (m08Word w x.op).2, x.walk, x.done, x.won⟩) 2), x.done, x.won⟩) else (bif ((m08Word w x.op).2 == 1) then ((m08Word w x.op).1, ⟨x.op, x.own, x.phase, (m08Word w x.op).2, x.walk, true, x.won⟩) else ((m08Word w x.op).1, ⟨x.op, x.own, 3, (m08Word w x.op).2, x.walk, x.done, x.won⟩))))
theorem k12_asks (w : RW) (rw : RX) (x : TakeR) (W : World) (hW : WAt W w rw) : Calls Try.prog 79 #[.agg (encW w rw).toArray, .agg (encTake x).toArray] W (fun e W' => ∃ r0 : RX, e = .returned (.tuple #[.agg (encW ((m12Asks w x).1) r0).toArray, .agg (encTake (m12Asks w x).2).toArray]) ∧ WAt W' (m12Asks w x).1 r0 ∧ FreshIn [wRep w rw] W (wRep (m12Asks w x).1 r0) ∧ Below W.heap.size W W') := by
 refine rf_enter (args := [.agg (encW w rw).toArray, .agg (encTake x).toArray]) [wRep w rw] Try.func79 rfl (by intro r hr; obtain rfl := List.mem_singleton.mp hr; exact hW) ?_
 refine rX 14 ?_
 refine qI (x.phase == 4) (fun h1 => ?_) (fun h1 => ?_)
 ·refine rZ 1 ?_
  refine qK (k12_asks.c1 w rw x) (k12_asks.r1 w rw x) (fun _ => True) ?_ ?_
  ·refine qD k12_asks.T2 [0, 0, 2, 6, 15, 31, 63, 63, 0, 383, 1023] [9] [0, 1] [] ?_
   refine rO [0, 1, 2] ?_
   refine rZ 3 ?_
   refine qF 3 8 ?_ ?_
   ·refine rO [] ?_
    refine qV [.int .u64 x.want] (fun W_ hT_ hR_ => c02_Of x.want _) ?_
    refine qF 4 8 ?_ ?_
    ·refine rO [5, 6, 7, 8, 9, 10] ?_
     refine qC [.agg (encW w rw).toArray, .int .i64 (pOf x.want)] fun W_ hT_ hR_ => (k08_Word _ _ _ _ (wget hR_ 0 rfl)).mono ?_
     rintro e_ W1_ ⟨rx2_, rfl, hw2_, hf2_, hb_⟩
     refine ⟨_, [wRep ((m08Word w (pOf x.want)).1) rx2_], rfl, hb_, (NewOk.cons hw2_ (hf2_.one (fun k_ => (fun h_ => ⟨_, mG 0 rfl, h_⟩))) NewOk.nil), ?_⟩
     refine rZ 9 ?_
     exact qJ (k12_asks.c1 w rw x) (k12_asks.r1 w rw x) (fun _ => True) rx2_ trivial (by simp [k12_asks.r1])
    ·refine rO [4, 5, 6, 7, 9, 10] ?_
     refine rZ 2 ?_
     refine qC [.agg (encW w rw).toArray, .int .i64 (pOf x.want)] fun W_ hT_ hR_ => (k08_Word _ _ _ _ (wget hR_ 0 rfl)).mono ?_
     rintro e_ W1_ ⟨rx3_, rfl, hw3_, hf3_, hb_⟩
     refine ⟨_, [wRep ((m08Word w (pOf x.want)).1) rx3_], rfl, hb_, (NewOk.cons hw3_ (hf3_.one (fun k_ => (fun h_ => ⟨_, mG 0 rfl, h_⟩))) NewOk.nil), ?_⟩
     refine rZ 7 ?_
     exact qJ (k12_asks.c1 w rw x) (k12_asks.r1 w rw x) (fun _ => True) rx3_ trivial (by simp [k12_asks.r1])
   ·refine rO [3, 4, 5, 6, 7, 9, 10] ?_
    refine rZ 2 ?_
    refine qV [.int .u64 x.want] (fun W_ hT_ hR_ => c02_Of x.want _) ?_
    refine rZ 1 ?_
    refine qC [.agg (encW w rw).toArray, .int .i64 (pOf x.want)] fun W_ hT_ hR_ => (k08_Word _ _ _ _ (wget hR_ 0 rfl)).mono ?_
    rintro e_ W1_ ⟨rx4_, rfl, hw4_, hf4_, hb_⟩
    refine ⟨_, [wRep ((m08Word w (pOf x.want)).1) rx4_], rfl, hb_, (NewOk.cons hw4_ (hf4_.one (fun k_ => (fun h_ => ⟨_, mG 0 rfl, h_⟩))) NewOk.nil), ?_⟩
    refine rZ 7 ?_
    exact qJ (k12_asks.c1 w rw x) (k12_asks.r1 w rw x) (fun _ => True) rx4_ trivial (by simp [k12_asks.r1])
  ·rintro rx2_ -
   refine rZ 1 ?_
   refine qD k12_asks.T3 [0, 1, 0, 4, 15, 31, 63] [6] [1] [] ?_
   refine rO [0, 2, 3, 1, 4, 5, 6] ?_
   refine rZ 4 ?_
   refine qV [.int .u64 ((m08Word w (pOf x.want)).2)] (fun W_ hT_ hR_ => c02_By ((m08Word w (pOf x.want)).2) _) ?_
   refine rZ 11 ?_
   refine qS 29 ((pBy ((m08Word w (pOf x.want)).2)) == x.op) (fun h5 => ?_) (fun h5 => ?_)
   ·refine rZ 4 ?_
    refine qI x.own (fun h6 => ?_) (fun h6 => ?_)
    ·refine rZ 4 ?_
     refine qV [.agg (encW ((m08Word w (pOf x.want)).1) rx2_).toArray, .agg (encTake ⟨x.op, x.own, x.phase, x.want, x.walk, x.done, ((pBy ((m08Word w (pOf x.want)).2)) == x.op)⟩).toArray] (fun W_ hT_ hR_ => k12_key _ _ ⟨x.op, x.own, x.phase, x.want, x.walk, x.done, ((pBy ((m08Word w (pOf x.want)).2)) == x.op)⟩ _ (wget hR_ 0 rfl)) ?_
     refine qV [.int .u64 (m12Key ((m08Word w (pOf x.want)).1) ⟨x.op, x.own, x.phase, x.want, x.walk, x.done, ((pBy ((m08Word w (pOf x.want)).2)) == x.op)⟩), .int .i64 3] (fun W_ hT_ hR_ => k10_New _ _ _) ?_
     refine rZ 8 ?_
     refine qD k12_asks.T8 [0, 0, 1, 7] [] [4, 1] [] ?_
     refine rO [0, 1, 2, 3] ?_
     refine rZ 7 ?_
     obtain ⟨m_, hq_, hm_⟩ := nm (m12Asks w x)
     unfold m12Asks at hm_
     simp only [bT h1, bT h5, bT h6] at hm_
     refine qR [.agg (encW m_.1 rx2_).toArray, .agg (encTake m_.2).toArray] (fun W1_ hT_ hR_ hF_ => ?_) (h := by rewrite [← hm_]; kernel_rfl)
     rw [hq_, ← hm_]
     exact ⟨_, rfl, (wget hR_ 0 rfl), (fun k_ => (fun h_ => hF_ _ (mG 0 rfl) k_ h_)), hT_.below⟩
    ·refine rZ 5 ?_
     refine qD k12_asks.T8 [0, 0, 1, 7] [] [4, 1] [] ?_
     refine rO [0, 1, 2, 3] ?_
     refine rZ 7 ?_
     obtain ⟨m_, hq_, hm_⟩ := nm (m12Asks w x)
     unfold m12Asks at hm_
     simp only [bT h1, bT h5, bF h6] at hm_
     refine qR [.agg (encW m_.1 rx2_).toArray, .agg (encTake m_.2).toArray] (fun W1_ hT_ hR_ hF_ => ?_) (h := by rewrite [← hm_]; kernel_rfl)
     rw [hq_, ← hm_]
     exact ⟨_, rfl, (wget hR_ 0 rfl), (fun k_ => (fun h_ => hF_ _ (mG 0 rfl) k_ h_)), hT_.below⟩
   ·refine rZ 10 ?_
    refine qD k12_asks.T8 [0, 0, 1, 7] [] [4, 1] [] ?_
    refine rO [0, 1, 2, 3] ?_
    refine rZ 7 ?_
    obtain ⟨m_, hq_, hm_⟩ := nm (m12Asks w x)
    unfold m12Asks at hm_
    simp only [bT h1, bF h5] at hm_
    refine qR [.agg (encW m_.1 rx2_).toArray, .agg (encTake m_.2).toArray] (fun W1_ hT_ hR_ hF_ => ?_) (h := by rewrite [← hm_]; kernel_rfl)
    rw [hq_, ← hm_]
    exact ⟨_, rfl, (wget hR_ 0 rfl), (fun k_ => (fun h_ => hF_ _ (mG 0 rfl) k_ h_)), hT_.below⟩
 ·refine rZ 6 ?_
  refine qC [.agg (encW w rw).toArray, .int .i64 x.op] fun W_ hT_ hR_ => (k08_Word _ _ _ _ (wget hR_ 0 rfl)).mono ?_
  rintro e_ W1_ ⟨rx7_, rfl, hw7_, hf7_, hb_⟩
  refine ⟨_, [wRep ((m08Word w x.op).1) rx7_], rfl, hb_, (NewOk.cons hw7_ (hf7_.one (fun k_ => (fun h_ => ⟨_, mG 0 rfl, h_⟩))) NewOk.nil), ?_⟩
  refine rZ 19 ?_
  refine qI ((m08Word w x.op).2 == 0) (fun h8 => ?_) (fun h8 => ?_)
  ·refine rZ 4 ?_
   refine qV [.agg (encW ((m08Word w x.op).1) rx7_).toArray, .agg (encTake ⟨x.op, x.own, x.phase, (m08Word w x.op).2, x.walk, x.done, x.won⟩).toArray] (fun W_ hT_ hR_ => k12_key _ _ ⟨x.op, x.own, x.phase, (m08Word w x.op).2, x.walk, x.done, x.won⟩ _ (wget hR_ 0 rfl)) ?_
   refine qV [.int .u64 (m12Key ((m08Word w x.op).1) ⟨x.op, x.own, x.phase, (m08Word w x.op).2, x.walk, x.done, x.won⟩), .int .i64 2] (fun W_ hT_ hR_ => k10_New _ _ _) ?_
   refine rZ 8 ?_
   refine qD k12_asks.T17 [0, 0, 1, 7] [] [4, 1] [] ?_
   refine rO [0, 1, 2, 3] ?_
   refine rZ 7 ?_
   obtain ⟨m_, hq_, hm_⟩ := nm (m12Asks w x)
   unfold m12Asks at hm_
   simp only [bF h1, bT h8] at hm_
   refine qR [.agg (encW m_.1 rx7_).toArray, .agg (encTake m_.2).toArray] (fun W1_ hT_ hR_ hF_ => ?_) (h := by rewrite [← hm_]; kernel_rfl)
   rw [hq_, ← hm_]
   exact ⟨_, rfl, (wget hR_ 0 rfl), (fun k_ => (fun h_ => hF_ _ (mG 0 rfl) k_ h_)), hT_.below⟩
  ·refine rZ 5 ?_
   refine qI ((m08Word w x.op).2 == 1) (fun h9 => ?_) (fun h9 => ?_)
   ·refine rZ 5 ?_
    refine qD k12_asks.T17 [0, 0, 1, 7] [] [4, 1] [] ?_
    refine rO [0, 1, 2, 3] ?_
    refine rZ 7 ?_
    obtain ⟨m_, hq_, hm_⟩ := nm (m12Asks w x)
    unfold m12Asks at hm_
    simp only [bF h1, bF h8, bT h9] at hm_
    refine qR [.agg (encW m_.1 rx7_).toArray, .agg (encTake m_.2).toArray] (fun W1_ hT_ hR_ hF_ => ?_) (h := by rewrite [← hm_]; kernel_rfl)
    rw [hq_, ← hm_]
    exact ⟨_, rfl, (wget hR_ 0 rfl), (fun k_ => (fun h_ => hF_ _ (mG 0 rfl) k_ h_)), hT_.below⟩
   ·refine rZ 5 ?_
    refine qD k12_asks.T17 [0, 0, 1, 7] [] [4, 1] [] ?_
    refine rO [0, 1, 2, 3] ?_
    refine rZ 7 ?_
    obtain ⟨m_, hq_, hm_⟩ := nm (m12Asks w x)
    unfold m12Asks at hm_
    simp only [bF h1, bF h8, bF h9] at hm_
    refine qR [.agg (encW m_.1 rx7_).toArray, .agg (encTake m_.2).toArray] (fun W1_ hT_ hR_ hF_ => ?_) (h := by rewrite [← hm_]; kernel_rfl)
    rw [hq_, ← hm_]
    exact ⟨_, rfl, (wget hR_ 0 rfl), (fun k_ => (fun h_ => hF_ _ (mG 0 rfl) k_ h_)), hT_.below⟩
def k12_walks.T4 : Bool × List (List Nat × List Nat) := (true, [([], []), ([], []), ([0, 0], [0]), ([1, 2, 0, 1, 2], [1])])
def k12_walks.T7 : Bool × List (List Nat × List Nat) := (true, [([], []), ([], []), ([0, 0], [0]), ([1, 2, 0, 1, 2], [1])])
def k12_walks.T12 : Bool × List (List Nat × List Nat) := (true, [([], []), ([], []), ([0, 0], [0]), ([1, 2, 0, 1, 2], [1])])
def m12Walks (w : RW) (x : TakeR) : RW × TakeR := (bif (!((m10Step w x.walk).2).done) then ((m10Step w x.walk).1, ⟨x.op, x.own, x.phase, x.want, (m10Step w x.walk).2, x.done, x.won⟩) else (bif (x.phase == 5) then ((m10Step w x.walk).1, ⟨x.op, x.own, x.phase, x.want, (m10Step w x.walk).2, true, x.won⟩) else (bif (((m10Step w x.walk).2).found != (-1)) then ((m10Step w x.walk).1, ⟨x.op, x.own, 2, (pTarget ((m10Step w x.walk).2).found), (m10Step w x.walk).2, x.done, x.won⟩) else ((m10Step w x.walk).1, ⟨x.op, x.own, 2, 1, (m10Step w x.walk).2, x.done, x.won⟩))))
theorem k12_walks (w : RW) (rw : RX) (x : TakeR) (W : World) (hW : WAt W w rw) : Calls Try.prog 80 #[.agg (encW w rw).toArray, .agg (encTake x).toArray] W (fun e W' => ∃ r0 : RX, e = .returned (.tuple #[.agg (encW ((m12Walks w x).1) r0).toArray, .agg (encTake (m12Walks w x).2).toArray]) ∧ WAt W' (m12Walks w x).1 r0 ∧ FreshIn [wRep w rw] W (wRep (m12Walks w x).1 r0) ∧ Below W.heap.size W W') := by
 refine rf_enter (args := [.agg (encW w rw).toArray, .agg (encTake x).toArray]) [wRep w rw] Try.func80 rfl (by intro r hr; obtain rfl := List.mem_singleton.mp hr; exact hW) ?_
 refine rX 12 ?_
 refine qC [.agg (encW w rw).toArray, .agg (encWalk x.walk).toArray] fun W_ hT_ hR_ => (k10_Step _ _ _ _ (wget hR_ 0 rfl)).mono ?_
 rintro e_ W1_ ⟨rx1_, rfl, hw1_, hf1_, hb_⟩
 refine ⟨_, [wRep ((m10Step w x.walk).1) rx1_], rfl, hb_, (NewOk.cons hw1_ (hf1_.one (fun k_ => (fun h_ => ⟨_, mG 0 rfl, h_⟩))) NewOk.nil), ?_⟩
 refine rZ 21 ?_
 refine qI (!((m10Step w x.walk).2).done) (fun h2 => ?_) (fun h2 => ?_)
 ·refine rZ 1 ?_
  refine qD k12_walks.T4 [0, 0, 1, 7] [] [4, 1] [] ?_
  refine rO [0, 1, 2, 3] ?_
  refine rZ 7 ?_
  obtain ⟨m_, hq_, hm_⟩ := nm (m12Walks w x)
  unfold m12Walks at hm_
  simp only [bT h2] at hm_
  refine qR [.agg (encW m_.1 rx1_).toArray, .agg (encTake m_.2).toArray] (fun W1_ hT_ hR_ hF_ => ?_) (h := by rewrite [← hm_]; kernel_rfl)
  rw [hq_, ← hm_]
  exact ⟨_, rfl, (wget hR_ 0 rfl), (fun k_ => (fun h_ => hF_ _ (mG 0 rfl) k_ h_)), hT_.below⟩
 ·refine rZ 8 ?_
  refine qI (x.phase == 5) (fun h3 => ?_) (fun h3 => ?_)
  ·refine rZ 6 ?_
   refine qD k12_walks.T7 [0, 0, 1, 7] [] [4, 1] [] ?_
   refine rO [0, 1, 2, 3] ?_
   refine rZ 7 ?_
   obtain ⟨m_, hq_, hm_⟩ := nm (m12Walks w x)
   unfold m12Walks at hm_
   simp only [bF h2, bT h3] at hm_
   refine qR [.agg (encW m_.1 rx1_).toArray, .agg (encTake m_.2).toArray] (fun W1_ hT_ hR_ hF_ => ?_) (h := by rewrite [← hm_]; kernel_rfl)
   rw [hq_, ← hm_]
   exact ⟨_, rfl, (wget hR_ 0 rfl), (fun k_ => (fun h_ => hF_ _ (mG 0 rfl) k_ h_)), hT_.below⟩
  ·refine rZ 13 ?_
   refine qI (((m10Step w x.walk).2).found != (-1)) (fun h4 => ?_) (fun h4 => ?_)
   ·refine rZ 3 ?_
    refine qV [.int .i64 ((m10Step w x.walk).2).found] (fun W_ hT_ hR_ => c02_Target ((m10Step w x.walk).2).found _) ?_
    refine rZ 9 ?_
    refine qD k12_walks.T12 [0, 0, 1, 7] [] [4, 1] [] ?_
    refine rO [0, 1, 2, 3] ?_
    refine rZ 7 ?_
    obtain ⟨m_, hq_, hm_⟩ := nm (m12Walks w x)
    unfold m12Walks at hm_
    simp only [bF h2, bF h3, bT h4] at hm_
    refine qR [.agg (encW m_.1 rx1_).toArray, .agg (encTake m_.2).toArray] (fun W1_ hT_ hR_ hF_ => ?_) (h := by rewrite [← hm_]; kernel_rfl)
    rw [hq_, ← hm_]
    exact ⟨_, rfl, (wget hR_ 0 rfl), (fun k_ => (fun h_ => hF_ _ (mG 0 rfl) k_ h_)), hT_.below⟩
   ·refine rZ 7 ?_
    refine qD k12_walks.T12 [0, 0, 1, 7] [] [4, 1] [] ?_
    refine rO [0, 1, 2, 3] ?_
    refine rZ 7 ?_
    obtain ⟨m_, hq_, hm_⟩ := nm (m12Walks w x)
    unfold m12Walks at hm_
    simp only [bF h2, bF h3, bF h4] at hm_
    refine qR [.agg (encW m_.1 rx1_).toArray, .agg (encTake m_.2).toArray] (fun W1_ hT_ hR_ hF_ => ?_) (h := by rewrite [← hm_]; kernel_rfl)
    rw [hq_, ← hm_]
    exact ⟨_, rfl, (wget hR_ 0 rfl), (fun k_ => (fun h_ => hF_ _ (mG 0 rfl) k_ h_)), hT_.below⟩
def m12New (a : Int) (b : Bool) : TakeR := ⟨a, b, 0, 0, zWalkR, false, false⟩
theorem k12_New (a : Int) (b : Bool) (W : World) : Calls Try.prog 65 #[.int .i64 a, .bool b] W (fun e W' => e = .returned (.agg (encTake (m12New a b)).toArray) ∧ Below W.heap.size W W') := by
 refine rf_enter (args := [.int .i64 a, .bool b]) [] Try.func65 rfl (by simp) ?_
 refine rX 11 ?_
 obtain ⟨m_, hq_, hm_⟩ := nm (m12New a b)
 unfold m12New at hm_
 refine qR [.agg (encTake m_).toArray] (fun W1_ hT_ hR_ hF_ => ?_) (h := by rewrite [← hm_]; kernel_rfl)
 rw [hq_, ← hm_]
 exact ⟨rfl, hT_.below⟩
def k12_Step.T2 : Bool × List (List Nat × List Nat) := (true, [([], []), ([], []), ([0, 0], [0]), ([1, 2, 0, 1, 2], [1])])
def k12_Step.T13 : Bool × List (List Nat × List Nat) := (true, [([], []), ([], []), ([0, 0], [0]), ([1, 2, 0, 1, 2], [1])])
def k12_Step.T15 : Bool × List (List Nat × List Nat) := (true, [([], []), ([], []), ([1], [1]), ([2], [2]), ([], []), ([4], [4]), ([5, 3], [5]), ([0, 3, 6, 6], [0, 3, 6]), ([7], [7]), ([8], [8]), ([8], [8]), ([], []), ([11, 9, 7, 0, 1, 2, 3, 4, 5, 6, 7, 8, 9, 11], [9, 11]), ([10, 12, 0, 1, 2, 3, 4, 5, 6, 7, 8, 9, 10, 11, 12], [10])])
def k12_Step.T17 : Bool × List (List Nat × List Nat) := (true, [([], []), ([], []), ([0, 0], [0]), ([1, 2, 0, 1, 2], [1])])
def k12_Step.T19 : Bool × List (List Nat × List Nat) := (true, [([], []), ([], []), ([0, 0], [0]), ([1, 2, 0, 1, 2], [1])])
def k12_Step.c1 (w : RW) (rw : RX) (x : TakeR) (x_ : RX) : St := match x_ with | rx15_ => ⟨[some ⟨true, 37, (encW w rw).map .v⟩, some ⟨true, 74, (encTake x).map .v⟩, some ⟨true, 37, (encW (RW.mk ⟨0, 0, 0, 0, 0⟩ [] 0 (RB.mk ⟨0, 0, 0, 0, 0⟩ [] [] [] [] [])) (RX.mk none 0 (RA.mk none none none none none 0 0 0 0 0))).map .v⟩, some ⟨true, 74, (encTake zTakeR).map .v⟩, some ⟨true, 37, (encW ((m08Turn w (pOf x.want) 1 (pOut x.op)).1) rx15_).map .v⟩], [.v (.agg (encW w rw).toArray), .v (.agg (encTake x).toArray), .ad 0 0, .ad 1 0, .ad 2 0, .ad 3 0, .v (undef), .v (undef), .ad 4 0, .v (.bool ((m08Turn w (pOf x.want) 1 (pOut x.op)).2)), .ad 1 14, .v (.bool x.done), .v (undef), .v (undef), .ad 1 2, .v (.int .i64 x.phase), .v (.bool (x.phase == 4)), .v (.bool (x.phase == 0)), .v (.bool (x.phase == 4)), .v (undef), .v (undef), .v (undef), .v (undef), .v (undef), .v (.bool (x.phase == 5)), .v (.bool (x.phase == 1)), .v (.bool (x.phase == 5)), .v (undef), .v (undef), .v (undef), .v (undef), .v (undef), .v (.bool (x.phase == 2)), .v (.bool (x.phase == 2)), .v (undef), .v (undef), .v (undef), .v (undef), .v (undef), .v (undef), .v (undef), .v (undef), .v (undef), .v (undef), .v (undef), .v (undef), .v (.bool (x.phase == 3)), .v (.bool (x.phase == 3)), .v (.tuple #[.agg (encW ((m08Turn w (pOf x.want) 1 (pOut x.op)).1) rx15_).toArray, .bool ((m08Turn w (pOf x.want) 1 (pOut x.op)).2)]), .v (.agg (encW w rw).toArray), .ad 1 3, .v (.int .u64 x.want), .v (.int .i64 (pOf x.want)), .ad 1 0, .v (.int .i64 x.op), .v (.int .u64 (pOut x.op)), .v (.tuple #[.agg (encW ((m08Turn w (pOf x.want) 1 (pOut x.op)).1) rx15_).toArray, .bool ((m08Turn w (pOf x.want) 1 (pOut x.op)).2)]), .v (.agg (encW ((m08Turn w (pOf x.want) 1 (pOut x.op)).1) rx15_).toArray), .v (.bool ((m08Turn w (pOf x.want) 1 (pOut x.op)).2)), .v (undef), .v (undef), .v (undef), .v (undef), .v (undef), .v (undef)]⟩
def k12_Step.r1 (w : RW) (rw : RX) (x : TakeR) (x_ : RX) : List PRep := match x_ with | rx15_ => [wRep ((m08Turn w (pOf x.want) 1 (pOut x.op)).1) rx15_, wRep w rw]
def m12Step (w : RW) (x : TakeR) : RW × TakeR := (bif x.done then (w, x) else (bif (x.phase == 0) then ((m12Asks w x).1, (m12Asks w x).2) else (bif (x.phase == 4) then ((m12Asks w x).1, (m12Asks w x).2) else (bif (x.phase == 1) then ((m12Walks w x).1, (m12Walks w x).2) else (bif (x.phase == 5) then ((m12Walks w x).1, (m12Walks w x).2) else (bif (x.phase == 2) then ((m08Turn w x.op 0 x.want).1, ⟨x.op, x.own, 0, x.want, x.walk, x.done, x.won⟩) else (bif (x.phase == 3) then ((m08Turn w (pOf x.want) 1 (pOut x.op)).1, ⟨x.op, x.own, 4, x.want, x.walk, x.done, x.won⟩) else (w, ⟨x.op, x.own, x.phase, x.want, x.walk, true, x.won⟩))))))))
theorem k12_Step (w : RW) (rw : RX) (x : TakeR) (W : World) (hW : WAt W w rw) : Calls Try.prog 72 #[.agg (encW w rw).toArray, .agg (encTake x).toArray] W (fun e W' => ∃ r0 : RX, e = .returned (.tuple #[.agg (encW ((m12Step w x).1) r0).toArray, .agg (encTake (m12Step w x).2).toArray]) ∧ WAt W' (m12Step w x).1 r0 ∧ FreshIn [wRep w rw] W (wRep (m12Step w x).1 r0) ∧ Below W.heap.size W W') := by
 refine rf_enter (args := [.agg (encW w rw).toArray, .agg (encTake x).toArray]) [wRep w rw] Try.func72 rfl (by intro r hr; obtain rfl := List.mem_singleton.mp hr; exact hW) ?_
 refine rX 13 ?_
 refine qI x.done (fun h1 => ?_) (fun h1 => ?_)
 ·refine rZ 1 ?_
  refine qD k12_Step.T2 [0, 0, 1, 7] [] [0, 1] [] ?_
  refine rO [0, 1, 2, 3] ?_
  refine rZ 7 ?_
  obtain ⟨m_, hq_, hm_⟩ := nm (m12Step w x)
  unfold m12Step at hm_
  simp only [bT h1] at hm_
  refine qR [.agg (encW m_.1 rw).toArray, .agg (encTake m_.2).toArray] (fun W1_ hT_ hR_ hF_ => ?_) (h := by rewrite [← hm_]; kernel_rfl)
  rw [hq_, ← hm_]
  exact ⟨_, rfl, (wget hR_ 0 rfl), (fun k_ => (fun h_ => hF_ _ (mG 0 rfl) k_ h_)), hT_.below⟩
 ·refine rZ 14 ?_
  refine qI (x.phase == 0) (fun h2 => ?_) (fun h2 => ?_)
  ·refine rZ 1 ?_
   refine qI (x.phase == 0) (fun hx_ => ?_) (fun hx_ => by rw [h2] at hx_; cases hx_)
   clear hx_
   refine rZ 4 ?_
   refine qC [.agg (encW w rw).toArray, .agg (encTake x).toArray] fun W_ hT_ hR_ => (k12_asks _ _ _ _ (wget hR_ 0 rfl)).mono ?_
   rintro e_ W1_ ⟨rx4_, rfl, hw4_, hf4_, hb_⟩
   refine ⟨_, [wRep ((m12Asks w x).1) rx4_], rfl, hb_, (NewOk.cons hw4_ (hf4_.one (fun k_ => (fun h_ => ⟨_, mG 0 rfl, h_⟩))) NewOk.nil), ?_⟩
   refine rZ 5 ?_
   obtain ⟨m_, hq_, hm_⟩ := nm (m12Step w x)
   unfold m12Step at hm_
   simp only [bF h1, bT h2] at hm_
   refine qR [.agg (encW m_.1 rx4_).toArray, .agg (encTake m_.2).toArray] (fun W1_ hT_ hR_ hF_ => ?_) (h := by rewrite [← hm_]; kernel_rfl)
   rw [hq_, ← hm_]
   exact ⟨_, rfl, (wget hR_ 0 rfl), (fun k_ => (fun h_ => hF_ _ (mG 0 rfl) k_ h_)), hT_.below⟩
  ·refine rZ 4 ?_
   refine qI (x.phase == 4) (fun h5 => ?_) (fun h5 => ?_)
   ·refine rZ 4 ?_
    refine qC [.agg (encW w rw).toArray, .agg (encTake x).toArray] fun W_ hT_ hR_ => (k12_asks _ _ _ _ (wget hR_ 0 rfl)).mono ?_
    rintro e_ W1_ ⟨rx6_, rfl, hw6_, hf6_, hb_⟩
    refine ⟨_, [wRep ((m12Asks w x).1) rx6_], rfl, hb_, (NewOk.cons hw6_ (hf6_.one (fun k_ => (fun h_ => ⟨_, mG 0 rfl, h_⟩))) NewOk.nil), ?_⟩
    refine rZ 5 ?_
    obtain ⟨m_, hq_, hm_⟩ := nm (m12Step w x)
    unfold m12Step at hm_
    simp only [bF h1, bF h2, bT h5] at hm_
    refine qR [.agg (encW m_.1 rx6_).toArray, .agg (encTake m_.2).toArray] (fun W1_ hT_ hR_ hF_ => ?_) (h := by rewrite [← hm_]; kernel_rfl)
    rw [hq_, ← hm_]
    exact ⟨_, rfl, (wget hR_ 0 rfl), (fun k_ => (fun h_ => hF_ _ (mG 0 rfl) k_ h_)), hT_.below⟩
   ·refine rZ 6 ?_
    refine qI (x.phase == 1) (fun h7 => ?_) (fun h7 => ?_)
    ·refine rZ 1 ?_
     refine qI (x.phase == 1) (fun hx_ => ?_) (fun hx_ => by rw [h7] at hx_; cases hx_)
     clear hx_
     refine rZ 4 ?_
     refine qC [.agg (encW w rw).toArray, .agg (encTake x).toArray] fun W_ hT_ hR_ => (k12_walks _ _ _ _ (wget hR_ 0 rfl)).mono ?_
     rintro e_ W1_ ⟨rx9_, rfl, hw9_, hf9_, hb_⟩
     refine ⟨_, [wRep ((m12Walks w x).1) rx9_], rfl, hb_, (NewOk.cons hw9_ (hf9_.one (fun k_ => (fun h_ => ⟨_, mG 0 rfl, h_⟩))) NewOk.nil), ?_⟩
     refine rZ 5 ?_
     obtain ⟨m_, hq_, hm_⟩ := nm (m12Step w x)
     unfold m12Step at hm_
     simp only [bF h1, bF h2, bF h5, bT h7] at hm_
     refine qR [.agg (encW m_.1 rx9_).toArray, .agg (encTake m_.2).toArray] (fun W1_ hT_ hR_ hF_ => ?_) (h := by rewrite [← hm_]; kernel_rfl)
     rw [hq_, ← hm_]
     exact ⟨_, rfl, (wget hR_ 0 rfl), (fun k_ => (fun h_ => hF_ _ (mG 0 rfl) k_ h_)), hT_.below⟩
    ·refine rZ 4 ?_
     refine qI (x.phase == 5) (fun h10 => ?_) (fun h10 => ?_)
     ·refine rZ 4 ?_
      refine qC [.agg (encW w rw).toArray, .agg (encTake x).toArray] fun W_ hT_ hR_ => (k12_walks _ _ _ _ (wget hR_ 0 rfl)).mono ?_
      rintro e_ W1_ ⟨rx11_, rfl, hw11_, hf11_, hb_⟩
      refine ⟨_, [wRep ((m12Walks w x).1) rx11_], rfl, hb_, (NewOk.cons hw11_ (hf11_.one (fun k_ => (fun h_ => ⟨_, mG 0 rfl, h_⟩))) NewOk.nil), ?_⟩
      refine rZ 5 ?_
      obtain ⟨m_, hq_, hm_⟩ := nm (m12Step w x)
      unfold m12Step at hm_
      simp only [bF h1, bF h2, bF h5, bF h7, bT h10] at hm_
      refine qR [.agg (encW m_.1 rx11_).toArray, .agg (encTake m_.2).toArray] (fun W1_ hT_ hR_ hF_ => ?_) (h := by rewrite [← hm_]; kernel_rfl)
      rw [hq_, ← hm_]
      exact ⟨_, rfl, (wget hR_ 0 rfl), (fun k_ => (fun h_ => hF_ _ (mG 0 rfl) k_ h_)), hT_.below⟩
     ·refine rZ 5 ?_
      refine qI (x.phase == 2) (fun h12 => ?_) (fun h12 => ?_)
      ·refine rZ 7 ?_
       refine qC [.agg (encW w rw).toArray, .int .i64 x.op, .int .u64 0, .int .u64 x.want] fun W_ hT_ hR_ => (k08_Turn _ _ _ _ _ _ (wget hR_ 0 rfl)).mono ?_
       rintro e_ W1_ ⟨rx13_, rfl, hw13_, hf13_, hb_⟩
       refine ⟨_, [wRep ((m08Turn w x.op 0 x.want).1) rx13_], rfl, hb_, (NewOk.cons hw13_ (hf13_.one (fun k_ => (fun h_ => ⟨_, mG 0 rfl, h_⟩))) NewOk.nil), ?_⟩
       refine rZ 13 ?_
       refine qD k12_Step.T13 [0, 0, 1, 7] [] [4, 1] [] ?_
       refine rO [0, 1, 2, 3] ?_
       refine rZ 7 ?_
       obtain ⟨m_, hq_, hm_⟩ := nm (m12Step w x)
       unfold m12Step at hm_
       simp only [bF h1, bF h2, bF h5, bF h7, bF h10, bT h12] at hm_
       refine qR [.agg (encW m_.1 rx13_).toArray, .agg (encTake m_.2).toArray] (fun W1_ hT_ hR_ hF_ => ?_) (h := by rewrite [← hm_]; kernel_rfl)
       rw [hq_, ← hm_]
       exact ⟨_, rfl, (wget hR_ 0 rfl), (fun k_ => (fun h_ => hF_ _ (mG 0 rfl) k_ h_)), hT_.below⟩
      ·refine rZ 5 ?_
       refine qI (x.phase == 3) (fun h14 => ?_) (fun h14 => ?_)
       ·refine rZ 1 ?_
        refine qK (k12_Step.c1 w rw x) (k12_Step.r1 w rw x) (fun _ => True) ?_ ?_
        ·refine qD k12_Step.T15 [0, 0, 2, 6, 0, 16, 62, 127, 255, 511, 511, 0, 3071, 8191] [12] [0, 1] [] ?_
         refine rO [0, 1, 2, 4, 5] ?_
         refine rZ 5 ?_
         refine qF 3 11 ?_ ?_
         ·refine rO [] ?_
          refine qV [.int .u64 x.want] (fun W_ hT_ hR_ => c02_Of x.want _) ?_
          refine qF 6 11 ?_ ?_
          ·refine rO [] ?_
           refine qV [.int .i64 x.op] (fun W_ hT_ hR_ => c02_Out x.op _) ?_
           refine qF 7 11 ?_ ?_
           ·refine rO [8, 9, 10, 11, 12, 13] ?_
            refine qC [.agg (encW w rw).toArray, .int .i64 (pOf x.want), .int .u64 1, .int .u64 (pOut x.op)] fun W_ hT_ hR_ => (k08_Turn _ _ _ _ _ _ (wget hR_ 0 rfl)).mono ?_
            rintro e_ W1_ ⟨rx15_, rfl, hw15_, hf15_, hb_⟩
            refine ⟨_, [wRep ((m08Turn w (pOf x.want) 1 (pOut x.op)).1) rx15_], rfl, hb_, (NewOk.cons hw15_ (hf15_.one (fun k_ => (fun h_ => ⟨_, mG 0 rfl, h_⟩))) NewOk.nil), ?_⟩
            refine rZ 9 ?_
            exact qJ (k12_Step.c1 w rw x) (k12_Step.r1 w rw x) (fun _ => True) rx15_ trivial (by simp [k12_Step.r1])
           ·refine rO [7, 8, 9, 10, 12, 13] ?_
            refine rZ 2 ?_
            refine qC [.agg (encW w rw).toArray, .int .i64 (pOf x.want), .int .u64 1, .int .u64 (pOut x.op)] fun W_ hT_ hR_ => (k08_Turn _ _ _ _ _ _ (wget hR_ 0 rfl)).mono ?_
            rintro e_ W1_ ⟨rx16_, rfl, hw16_, hf16_, hb_⟩
            refine ⟨_, [wRep ((m08Turn w (pOf x.want) 1 (pOut x.op)).1) rx16_], rfl, hb_, (NewOk.cons hw16_ (hf16_.one (fun k_ => (fun h_ => ⟨_, mG 0 rfl, h_⟩))) NewOk.nil), ?_⟩
            refine rZ 7 ?_
            exact qJ (k12_Step.c1 w rw x) (k12_Step.r1 w rw x) (fun _ => True) rx16_ trivial (by simp [k12_Step.r1])
          ·refine rO [6, 7, 8, 9, 10, 12, 13] ?_
           refine rZ 2 ?_
           refine qV [.int .i64 x.op] (fun W_ hT_ hR_ => c02_Out x.op _) ?_
           refine rZ 1 ?_
           refine qC [.agg (encW w rw).toArray, .int .i64 (pOf x.want), .int .u64 1, .int .u64 (pOut x.op)] fun W_ hT_ hR_ => (k08_Turn _ _ _ _ _ _ (wget hR_ 0 rfl)).mono ?_
           rintro e_ W1_ ⟨rx17_, rfl, hw17_, hf17_, hb_⟩
           refine ⟨_, [wRep ((m08Turn w (pOf x.want) 1 (pOut x.op)).1) rx17_], rfl, hb_, (NewOk.cons hw17_ (hf17_.one (fun k_ => (fun h_ => ⟨_, mG 0 rfl, h_⟩))) NewOk.nil), ?_⟩
           refine rZ 7 ?_
           exact qJ (k12_Step.c1 w rw x) (k12_Step.r1 w rw x) (fun _ => True) rx17_ trivial (by simp [k12_Step.r1])
         ·refine rO [3, 6, 7, 8, 9, 10, 12, 13] ?_
          refine rZ 2 ?_
          refine qV [.int .u64 x.want] (fun W_ hT_ hR_ => c02_Of x.want _) ?_
          refine rZ 1 ?_
          refine qV [.int .i64 x.op] (fun W_ hT_ hR_ => c02_Out x.op _) ?_
          refine rZ 1 ?_
          refine qC [.agg (encW w rw).toArray, .int .i64 (pOf x.want), .int .u64 1, .int .u64 (pOut x.op)] fun W_ hT_ hR_ => (k08_Turn _ _ _ _ _ _ (wget hR_ 0 rfl)).mono ?_
          rintro e_ W1_ ⟨rx18_, rfl, hw18_, hf18_, hb_⟩
          refine ⟨_, [wRep ((m08Turn w (pOf x.want) 1 (pOut x.op)).1) rx18_], rfl, hb_, (NewOk.cons hw18_ (hf18_.one (fun k_ => (fun h_ => ⟨_, mG 0 rfl, h_⟩))) NewOk.nil), ?_⟩
          refine rZ 7 ?_
          exact qJ (k12_Step.c1 w rw x) (k12_Step.r1 w rw x) (fun _ => True) rx18_ trivial (by simp [k12_Step.r1])
        ·rintro rx15_ -
         refine rZ 6 ?_
         refine qD k12_Step.T17 [0, 0, 1, 7] [] [4, 1] [] ?_
         refine rO [0, 1, 2, 3] ?_
         refine rZ 7 ?_
         obtain ⟨m_, hq_, hm_⟩ := nm (m12Step w x)
         unfold m12Step at hm_
         simp only [bF h1, bF h2, bF h5, bF h7, bF h10, bF h12, bT h14] at hm_
         refine qR [.agg (encW m_.1 rx15_).toArray, .agg (encTake m_.2).toArray] (fun W1_ hT_ hR_ hF_ => ?_) (h := by rewrite [← hm_]; kernel_rfl)
         rw [hq_, ← hm_]
         exact ⟨_, rfl, (wget hR_ 0 rfl), (fun k_ => (fun h_ => hF_ _ (mG 0 rfl) k_ h_)), hT_.below⟩
       ·refine rZ 8 ?_
        refine qD k12_Step.T19 [0, 0, 1, 7] [] [0, 1] [] ?_
        refine rO [0, 1, 2, 3] ?_
        refine rZ 7 ?_
        obtain ⟨m_, hq_, hm_⟩ := nm (m12Step w x)
        unfold m12Step at hm_
        simp only [bF h1, bF h2, bF h5, bF h7, bF h10, bF h12, bF h14] at hm_
        refine qR [.agg (encW m_.1 rw).toArray, .agg (encTake m_.2).toArray] (fun W1_ hT_ hR_ hF_ => ?_) (h := by rewrite [← hm_]; kernel_rfl)
        rw [hq_, ← hm_]
        exact ⟨_, rfl, (wget hR_ 0 rfl), (fun k_ => (fun h_ => hF_ _ (mG 0 rfl) k_ h_)), hT_.below⟩
def m13New (a : Int) : GetR := ⟨a, 0, 0, zWalkR, false, (-1)⟩
theorem k13_New (a : Int) (W : World) : Calls Try.prog 66 #[.int .i64 a] W (fun e W' => e = .returned (.agg (encGet (m13New a)).toArray) ∧ Below W.heap.size W W') := by
 refine rf_enter (args := [.int .i64 a]) [] Try.func66 rfl (by simp) ?_
 refine rX 10 ?_
 obtain ⟨m_, hq_, hm_⟩ := nm (m13New a)
 unfold m13New at hm_
 refine qR [.agg (encGet m_).toArray] (fun W1_ hT_ hR_ hF_ => ?_) (h := by rewrite [← hm_]; kernel_rfl)
 rw [hq_, ← hm_]
 exact ⟨rfl, hT_.below⟩
def k13_Step.T2 : Bool × List (List Nat × List Nat) := (true, [([], []), ([], []), ([0, 0], [0]), ([1, 2, 0, 1, 2], [1])])
def k13_Step.T13 : Bool × List (List Nat × List Nat) := (true, [([], []), ([], []), ([0, 0], [0]), ([1, 2, 0, 1, 2], [1])])
def k13_Step.T22 : Bool × List (List Nat × List Nat) := (true, [([], []), ([], []), ([0, 0], [0]), ([1, 2, 0, 1, 2], [1])])
def k13_Step.T26 : Bool × List (List Nat × List Nat) := (true, [([], []), ([], []), ([0, 0], [0]), ([1, 2, 0, 1, 2], [1])])
def k13_Step.T28 : Bool × List (List Nat × List Nat) := (true, [([], []), ([], []), ([0, 0], [0]), ([1, 2, 0, 1, 2], [1])])
def m13Step (w : RW) (x : GetR) : RW × GetR := (bif x.done then (w, x) else (bif (x.phase == 0) then (bif ((m08Word w x.op).2 == 0) then ((m08Word w x.op).1, ⟨x.op, 1, (m08Word w x.op).2, (m10New (callF w.b x.op).f1 2), x.done, x.found⟩) else ((m08Word w x.op).1, ⟨x.op, x.phase, (m08Word w x.op).2, x.walk, true, (pOf ((m08Word w x.op).2))⟩)) else (bif (x.phase == 1) then (bif ((m10Step w x.walk).2).done then (bif (((m10Step w x.walk).2).found != (-1)) then ((m10Step w x.walk).1, ⟨x.op, 2, (pTarget ((m10Step w x.walk).2).found), (m10Step w x.walk).2, x.done, x.found⟩) else ((m10Step w x.walk).1, ⟨x.op, 2, 1, (m10Step w x.walk).2, x.done, x.found⟩)) else ((m10Step w x.walk).1, ⟨x.op, x.phase, x.want, (m10Step w x.walk).2, x.done, x.found⟩)) else (bif (x.phase == 2) then ((m08Turn w x.op 0 x.want).1, ⟨x.op, 0, x.want, x.walk, x.done, x.found⟩) else (w, ⟨x.op, x.phase, x.want, x.walk, true, x.found⟩)))))
theorem k13_Step (w : RW) (rw : RX) (x : GetR) (W : World) (hW : WAt W w rw) : Calls Try.prog 73 #[.agg (encW w rw).toArray, .agg (encGet x).toArray] W (fun e W' => ∃ r0 : RX, e = .returned (.tuple #[.agg (encW ((m13Step w x).1) r0).toArray, .agg (encGet (m13Step w x).2).toArray]) ∧ WAt W' (m13Step w x).1 r0 ∧ FreshIn [wRep w rw] W (wRep (m13Step w x).1 r0) ∧ Below W.heap.size W W') := by
 refine rf_enter (args := [.agg (encW w rw).toArray, .agg (encGet x).toArray]) [wRep w rw] Try.func73 rfl (by intro r hr; obtain rfl := List.mem_singleton.mp hr; exact hW) ?_
 refine rX 13 ?_
 refine qI x.done (fun h1 => ?_) (fun h1 => ?_)
 ·refine rZ 1 ?_
  refine qD k13_Step.T2 [0, 0, 1, 7] [] [0, 1] [] ?_
  refine rO [0, 1, 2, 3] ?_
  refine rZ 7 ?_
  obtain ⟨m_, hq_, hm_⟩ := nm (m13Step w x)
  unfold m13Step at hm_
  simp only [bT h1] at hm_
  refine qR [.agg (encW m_.1 rw).toArray, .agg (encGet m_.2).toArray] (fun W1_ hT_ hR_ hF_ => ?_) (h := by rewrite [← hm_]; kernel_rfl)
  rw [hq_, ← hm_]
  exact ⟨_, rfl, (wget hR_ 0 rfl), (fun k_ => (fun h_ => hF_ _ (mG 0 rfl) k_ h_)), hT_.below⟩
 ·refine rZ 13 ?_
  refine qI (x.phase == 0) (fun h2 => ?_) (fun h2 => ?_)
  ·refine rZ 5 ?_
   refine qC [.agg (encW w rw).toArray, .int .i64 x.op] fun W_ hT_ hR_ => (k08_Word _ _ _ _ (wget hR_ 0 rfl)).mono ?_
   rintro e_ W1_ ⟨rx3_, rfl, hw3_, hf3_, hb_⟩
   refine ⟨_, [wRep ((m08Word w x.op).1) rx3_], rfl, hb_, (NewOk.cons hw3_ (hf3_.one (fun k_ => (fun h_ => ⟨_, mG 0 rfl, h_⟩))) NewOk.nil), ?_⟩
   refine rZ 19 ?_
   refine qI ((m08Word w x.op).2 == 0) (fun h4 => ?_) (fun h4 => ?_)
   ·refine rZ 6 ?_
    refine qV [.agg (encB w.b rw.r).toArray, .int .i64 x.op] (fun W_ hT_ hR_ => c07_Call w.b rw.r x.op _ (wget hR_ 1 rfl).b) ?_
    refine rZ 11 ?_
    refine qV [.int .u64 (callF w.b x.op).f1, .int .i64 2] (fun W_ hT_ hR_ => k10_New _ _ _) ?_
    refine rZ 8 ?_
    refine qD k13_Step.T13 [0, 0, 1, 7] [] [4, 1] [] ?_
    refine rO [0, 1, 2, 3] ?_
    refine rZ 7 ?_
    obtain ⟨m_, hq_, hm_⟩ := nm (m13Step w x)
    unfold m13Step at hm_
    simp only [bF h1, bT h2, bT h4] at hm_
    refine qR [.agg (encW m_.1 rx3_).toArray, .agg (encGet m_.2).toArray] (fun W1_ hT_ hR_ hF_ => ?_) (h := by rewrite [← hm_]; kernel_rfl)
    rw [hq_, ← hm_]
    exact ⟨_, rfl, (wget hR_ 0 rfl), (fun k_ => (fun h_ => hF_ _ (mG 0 rfl) k_ h_)), hT_.below⟩
   ·refine rZ 7 ?_
    refine qV [.int .u64 ((m08Word w x.op).2)] (fun W_ hT_ hR_ => c02_Of ((m08Word w x.op).2) _) ?_
    refine rZ 4 ?_
    refine qD k13_Step.T13 [0, 0, 1, 7] [] [4, 1] [] ?_
    refine rO [0, 1, 2, 3] ?_
    refine rZ 7 ?_
    obtain ⟨m_, hq_, hm_⟩ := nm (m13Step w x)
    unfold m13Step at hm_
    simp only [bF h1, bT h2, bF h4] at hm_
    refine qR [.agg (encW m_.1 rx3_).toArray, .agg (encGet m_.2).toArray] (fun W1_ hT_ hR_ hF_ => ?_) (h := by rewrite [← hm_]; kernel_rfl)
    rw [hq_, ← hm_]
    exact ⟨_, rfl, (wget hR_ 0 rfl), (fun k_ => (fun h_ => hF_ _ (mG 0 rfl) k_ h_)), hT_.below⟩
  ·refine rZ 5 ?_
   refine qI (x.phase == 1) (fun h5 => ?_) (fun h5 => ?_)
   ·refine rZ 5 ?_
    refine qC [.agg (encW w rw).toArray, .agg (encWalk x.walk).toArray] fun W_ hT_ hR_ => (k10_Step _ _ _ _ (wget hR_ 0 rfl)).mono ?_
    rintro e_ W1_ ⟨rx6_, rfl, hw6_, hf6_, hb_⟩
    refine ⟨_, [wRep ((m10Step w x.walk).1) rx6_], rfl, hb_, (NewOk.cons hw6_ (hf6_.one (fun k_ => (fun h_ => ⟨_, mG 0 rfl, h_⟩))) NewOk.nil), ?_⟩
    refine rZ 20 ?_
    refine qI ((m10Step w x.walk).2).done (fun h7 => ?_) (fun h7 => ?_)
    ·refine rZ 16 ?_
     refine qI (((m10Step w x.walk).2).found != (-1)) (fun h8 => ?_) (fun h8 => ?_)
     ·refine rZ 3 ?_
      refine qV [.int .i64 ((m10Step w x.walk).2).found] (fun W_ hT_ hR_ => c02_Target ((m10Step w x.walk).2).found _) ?_
      refine rZ 4 ?_
      refine qD k13_Step.T22 [0, 0, 1, 7] [] [4, 1] [] ?_
      refine rO [0, 1, 2, 3] ?_
      refine rZ 7 ?_
      obtain ⟨m_, hq_, hm_⟩ := nm (m13Step w x)
      unfold m13Step at hm_
      simp only [bF h1, bF h2, bT h5, bT h7, bT h8] at hm_
      refine qR [.agg (encW m_.1 rx6_).toArray, .agg (encGet m_.2).toArray] (fun W1_ hT_ hR_ hF_ => ?_) (h := by rewrite [← hm_]; kernel_rfl)
      rw [hq_, ← hm_]
      exact ⟨_, rfl, (wget hR_ 0 rfl), (fun k_ => (fun h_ => hF_ _ (mG 0 rfl) k_ h_)), hT_.below⟩
     ·refine rZ 2 ?_
      refine qD k13_Step.T22 [0, 0, 1, 7] [] [4, 1] [] ?_
      refine rO [0, 1, 2, 3] ?_
      refine rZ 7 ?_
      obtain ⟨m_, hq_, hm_⟩ := nm (m13Step w x)
      unfold m13Step at hm_
      simp only [bF h1, bF h2, bT h5, bT h7, bF h8] at hm_
      refine qR [.agg (encW m_.1 rx6_).toArray, .agg (encGet m_.2).toArray] (fun W1_ hT_ hR_ hF_ => ?_) (h := by rewrite [← hm_]; kernel_rfl)
      rw [hq_, ← hm_]
      exact ⟨_, rfl, (wget hR_ 0 rfl), (fun k_ => (fun h_ => hF_ _ (mG 0 rfl) k_ h_)), hT_.below⟩
    ·refine rZ 2 ?_
     refine qD k13_Step.T22 [0, 0, 1, 7] [] [4, 1] [] ?_
     refine rO [0, 1, 2, 3] ?_
     refine rZ 7 ?_
     obtain ⟨m_, hq_, hm_⟩ := nm (m13Step w x)
     unfold m13Step at hm_
     simp only [bF h1, bF h2, bT h5, bF h7] at hm_
     refine qR [.agg (encW m_.1 rx6_).toArray, .agg (encGet m_.2).toArray] (fun W1_ hT_ hR_ hF_ => ?_) (h := by rewrite [← hm_]; kernel_rfl)
     rw [hq_, ← hm_]
     exact ⟨_, rfl, (wget hR_ 0 rfl), (fun k_ => (fun h_ => hF_ _ (mG 0 rfl) k_ h_)), hT_.below⟩
   ·refine rZ 5 ?_
    refine qI (x.phase == 2) (fun h9 => ?_) (fun h9 => ?_)
    ·refine rZ 7 ?_
     refine qC [.agg (encW w rw).toArray, .int .i64 x.op, .int .u64 0, .int .u64 x.want] fun W_ hT_ hR_ => (k08_Turn _ _ _ _ _ _ (wget hR_ 0 rfl)).mono ?_
     rintro e_ W1_ ⟨rx10_, rfl, hw10_, hf10_, hb_⟩
     refine ⟨_, [wRep ((m08Turn w x.op 0 x.want).1) rx10_], rfl, hb_, (NewOk.cons hw10_ (hf10_.one (fun k_ => (fun h_ => ⟨_, mG 0 rfl, h_⟩))) NewOk.nil), ?_⟩
     refine rZ 13 ?_
     refine qD k13_Step.T26 [0, 0, 1, 7] [] [4, 1] [] ?_
     refine rO [0, 1, 2, 3] ?_
     refine rZ 7 ?_
     obtain ⟨m_, hq_, hm_⟩ := nm (m13Step w x)
     unfold m13Step at hm_
     simp only [bF h1, bF h2, bF h5, bT h9] at hm_
     refine qR [.agg (encW m_.1 rx10_).toArray, .agg (encGet m_.2).toArray] (fun W1_ hT_ hR_ hF_ => ?_) (h := by rewrite [← hm_]; kernel_rfl)
     rw [hq_, ← hm_]
     exact ⟨_, rfl, (wget hR_ 0 rfl), (fun k_ => (fun h_ => hF_ _ (mG 0 rfl) k_ h_)), hT_.below⟩
    ·refine rZ 8 ?_
     refine qD k13_Step.T28 [0, 0, 1, 7] [] [0, 1] [] ?_
     refine rO [0, 1, 2, 3] ?_
     refine rZ 7 ?_
     obtain ⟨m_, hq_, hm_⟩ := nm (m13Step w x)
     unfold m13Step at hm_
     simp only [bF h1, bF h2, bF h5, bF h9] at hm_
     refine qR [.agg (encW m_.1 rw).toArray, .agg (encGet m_.2).toArray] (fun W1_ hT_ hR_ hF_ => ?_) (h := by rewrite [← hm_]; kernel_rfl)
     rw [hq_, ← hm_]
     exact ⟨_, rfl, (wget hR_ 0 rfl), (fun k_ => (fun h_ => hF_ _ (mG 0 rfl) k_ h_)), hT_.below⟩
end Go.Proofs.Ytbhakljebcmocaa.PBoundKeeps
end
section
namespace Go.Proofs.Ytbhakljebcmocaa.PBoundKeeps
open Go.RowKit Go.Proofs.YtbhakljebcmocaaW.PrintWords Go.Proofs.YtbhakljebcmocaaW.PrintLast Go.Proofs.YtbhakljebcmocaaW.PrintMore
set_option linter.unusedVariables false
set_option maxHeartbeats 1000000
set_option maxRecDepth 100000
set_option linter.unusedSimpArgs false
def m14New (w : RW) (a : Int) (b : Int) (d : Bool) : ActR := (bif ((callF w.b a).f0 == 1) then ⟨a, (callF w.b a).f0, (m11New a b), zTakeR, zGetR, false, zResR⟩ else (bif ((callF w.b a).f0 == 2) then ⟨a, (callF w.b a).f0, zPutR, (m12New a d), zGetR, false, zResR⟩ else (bif ((callF w.b a).f0 == 3) then ⟨a, (callF w.b a).f0, zPutR, zTakeR, (m13New a), false, zResR⟩ else ⟨a, (callF w.b a).f0, zPutR, zTakeR, zGetR, true, zResR⟩)))
theorem k14_New (w : RW) (rw : RX) (a : Int) (b : Int) (d : Bool) (W : World) (hW : WAt W w rw) : Calls Try.prog 49 #[.agg (encW w rw).toArray, .int .i64 a, .int .i64 b, .bool d] W (fun e W' => e = .returned (.agg (encAct (m14New w a b d)).toArray) ∧ Below W.heap.size W W') := by
 refine rf_enter (args := [.agg (encW w rw).toArray, .int .i64 a, .int .i64 b, .bool d]) [wRep w rw] Try.func49 rfl (by intro r hr; obtain rfl := List.mem_singleton.mp hr; exact hW) ?_
 refine rX 10 ?_
 refine qV [.agg (encB w.b rw.r).toArray, .int .i64 a] (fun W_ hT_ hR_ => c07_Call w.b rw.r a _ (wget hR_ 0 rfl).b) ?_
 refine rZ 28 ?_
 refine qI ((callF w.b a).f0 == 1) (fun h1 => ?_) (fun h1 => ?_)
 ·refine rZ 3 ?_
  refine qV [.int .i64 a, .int .i64 b] (fun W_ hT_ hR_ => k11_New _ _ _) ?_
  refine rZ 9 ?_
  obtain ⟨m_, hq_, hm_⟩ := nm (m14New w a b d)
  unfold m14New at hm_
  simp only [bT h1] at hm_
  refine qR [.agg (encAct m_).toArray] (fun W1_ hT_ hR_ hF_ => ?_) (h := by rewrite [← hm_]; kernel_rfl)
  rw [hq_, ← hm_]
  exact ⟨rfl, hT_.below⟩
 ·refine rZ 5 ?_
  refine qI ((callF w.b a).f0 == 2) (fun h2 => ?_) (fun h2 => ?_)
  ·refine rZ 3 ?_
   refine qV [.int .i64 a, .bool d] (fun W_ hT_ hR_ => k12_New _ _ _) ?_
   refine rZ 9 ?_
   obtain ⟨m_, hq_, hm_⟩ := nm (m14New w a b d)
   unfold m14New at hm_
   simp only [bF h1, bT h2] at hm_
   refine qR [.agg (encAct m_).toArray] (fun W1_ hT_ hR_ hF_ => ?_) (h := by rewrite [← hm_]; kernel_rfl)
   rw [hq_, ← hm_]
   exact ⟨rfl, hT_.below⟩
  ·refine rZ 5 ?_
   refine qI ((callF w.b a).f0 == 3) (fun h3 => ?_) (fun h3 => ?_)
   ·refine rZ 2 ?_
    refine qV [.int .i64 a] (fun W_ hT_ hR_ => k13_New _ _) ?_
    refine rZ 9 ?_
    obtain ⟨m_, hq_, hm_⟩ := nm (m14New w a b d)
    unfold m14New at hm_
    simp only [bF h1, bF h2, bT h3] at hm_
    refine qR [.agg (encAct m_).toArray] (fun W1_ hT_ hR_ hF_ => ?_) (h := by rewrite [← hm_]; kernel_rfl)
    rw [hq_, ← hm_]
    exact ⟨rfl, hT_.below⟩
   ·refine rZ 10 ?_
    obtain ⟨m_, hq_, hm_⟩ := nm (m14New w a b d)
    unfold m14New at hm_
    simp only [bF h1, bF h2, bF h3] at hm_
    refine qR [.agg (encAct m_).toArray] (fun W1_ hT_ hR_ hF_ => ?_) (h := by rewrite [← hm_]; kernel_rfl)
    rw [hq_, ← hm_]
    exact ⟨rfl, hT_.below⟩
def k14_Step.T2 : Bool × List (List Nat × List Nat) := (true, [([], []), ([], []), ([0, 0], [0]), ([1, 2, 0, 1, 2], [1])])
def k14_Step.T9 : Bool × List (List Nat × List Nat) := (true, [([], []), ([], []), ([0, 0], [0]), ([1, 2, 0, 1, 2], [1])])
def k14_Step.T15 : Bool × List (List Nat × List Nat) := (true, [([], []), ([], []), ([0, 0], [0]), ([1, 2, 0, 1, 2], [1])])
def k14_Step.T23 : Bool × List (List Nat × List Nat) := (true, [([], []), ([], []), ([0, 0], [0]), ([1, 2, 0, 1, 2], [1])])
def k14_Step.T25 : Bool × List (List Nat × List Nat) := (true, [([], []), ([], []), ([0, 0], [0]), ([1, 2, 0, 1, 2], [1])])
def m14Step (w : RW) (x : ActR) : RW × ActR := (bif x.done then (w, x) else (bif (x.kind == 1) then (bif ((m11Step w x.place).2).done then ((m11Step w x.place).1, ⟨x.op, x.kind, (m11Step w x.place).2, x.take, x.get, ((m11Step w x.place).2).done, ⟨x.result.err, ((m11Step w x.place).2).won, x.result.val⟩⟩) else ((m11Step w x.place).1, ⟨x.op, x.kind, (m11Step w x.place).2, x.take, x.get, ((m11Step w x.place).2).done, ⟨x.result.err, false, x.result.val⟩⟩)) else (bif (x.kind == 2) then (bif ((m12Step w x.take).2).done then ((m12Step w x.take).1, ⟨x.op, x.kind, x.place, (m12Step w x.take).2, x.get, ((m12Step w x.take).2).done, ⟨x.result.err, ((m12Step w x.take).2).won, x.result.val⟩⟩) else ((m12Step w x.take).1, ⟨x.op, x.kind, x.place, (m12Step w x.take).2, x.get, ((m12Step w x.take).2).done, ⟨x.result.err, false, x.result.val⟩⟩)) else (bif (x.kind == 3) then (bif ((m13Step w x.get).2).done then (bif (decide (((m13Step w x.get).2).found ≥ 0)) then ((m13Step w x.get).1, ⟨x.op, x.kind, x.place, x.take, (m13Step w x.get).2, ((m13Step w x.get).2).done, ⟨0, true, (callF w.b ((m13Step w x.get).2).found).f2⟩⟩) else ((m13Step w x.get).1, ⟨x.op, x.kind, x.place, x.take, (m13Step w x.get).2, ((m13Step w x.get).2).done, x.result⟩)) else ((m13Step w x.get).1, ⟨x.op, x.kind, x.place, x.take, (m13Step w x.get).2, ((m13Step w x.get).2).done, x.result⟩)) else (w, ⟨x.op, x.kind, x.place, x.take, x.get, true, x.result⟩)))))
theorem k14_Step (w : RW) (rw : RX) (x : ActR) (W : World) (hW : WAt W w rw) : Calls Try.prog 63 #[.agg (encW w rw).toArray, .agg (encAct x).toArray] W (fun e W' => ∃ r0 : RX, e = .returned (.tuple #[.agg (encW ((m14Step w x).1) r0).toArray, .agg (encAct (m14Step w x).2).toArray]) ∧ WAt W' (m14Step w x).1 r0 ∧ FreshIn [wRep w rw] W (wRep (m14Step w x).1 r0) ∧ Below W.heap.size W W') := by
 refine rf_enter (args := [.agg (encW w rw).toArray, .agg (encAct x).toArray]) [wRep w rw] Try.func63 rfl (by intro r hr; obtain rfl := List.mem_singleton.mp hr; exact hW) ?_
 refine rX 13 ?_
 refine qI x.done (fun h1 => ?_) (fun h1 => ?_)
 ·refine rZ 1 ?_
  refine qD k14_Step.T2 [0, 0, 1, 7] [] [0, 1] [] ?_
  refine rO [0, 1, 2, 3] ?_
  refine rZ 7 ?_
  obtain ⟨m_, hq_, hm_⟩ := nm (m14Step w x)
  unfold m14Step at hm_
  simp only [bT h1] at hm_
  refine qR [.agg (encW m_.1 rw).toArray, .agg (encAct m_.2).toArray] (fun W1_ hT_ hR_ hF_ => ?_) (h := by rewrite [← hm_]; kernel_rfl)
  rw [hq_, ← hm_]
  exact ⟨_, rfl, (wget hR_ 0 rfl), (fun k_ => (fun h_ => hF_ _ (mG 0 rfl) k_ h_)), hT_.below⟩
 ·refine rZ 13 ?_
  refine qI (x.kind == 1) (fun h2 => ?_) (fun h2 => ?_)
  ·refine rZ 5 ?_
   refine qC [.agg (encW w rw).toArray, .agg (encPut x.place).toArray] fun W_ hT_ hR_ => (k11_Step _ _ _ _ (wget hR_ 0 rfl)).mono ?_
   rintro e_ W1_ ⟨rx3_, rfl, hw3_, hf3_, hb_⟩
   refine ⟨_, [wRep ((m11Step w x.place).1) rx3_], rfl, hb_, (NewOk.cons hw3_ (hf3_.one (fun k_ => (fun h_ => ⟨_, mG 0 rfl, h_⟩))) NewOk.nil), ?_⟩
   refine rZ 26 ?_
   refine qS 36 ((m11Step w x.place).2).done (fun h4 => ?_) (fun h4 => ?_)
   ·refine rZ 8 ?_
    refine qD k14_Step.T9 [0, 0, 1, 7] [] [4, 1] [] ?_
    refine rO [0, 1, 2, 3] ?_
    refine rZ 7 ?_
    obtain ⟨m_, hq_, hm_⟩ := nm (m14Step w x)
    unfold m14Step at hm_
    simp only [bF h1, bT h2, bT h4] at hm_
    refine qR [.agg (encW m_.1 rx3_).toArray, .agg (encAct m_.2).toArray] (fun W1_ hT_ hR_ hF_ => ?_) (h := by rewrite [← hm_]; kernel_rfl)
    rw [hq_, ← hm_]
    exact ⟨_, rfl, (wget hR_ 0 rfl), (fun k_ => (fun h_ => hF_ _ (mG 0 rfl) k_ h_)), hT_.below⟩
   ·refine rZ 8 ?_
    refine qD k14_Step.T9 [0, 0, 1, 7] [] [4, 1] [] ?_
    refine rO [0, 1, 2, 3] ?_
    refine rZ 7 ?_
    obtain ⟨m_, hq_, hm_⟩ := nm (m14Step w x)
    unfold m14Step at hm_
    simp only [bF h1, bT h2, bF h4] at hm_
    refine qR [.agg (encW m_.1 rx3_).toArray, .agg (encAct m_.2).toArray] (fun W1_ hT_ hR_ hF_ => ?_) (h := by rewrite [← hm_]; kernel_rfl)
    rw [hq_, ← hm_]
    exact ⟨_, rfl, (wget hR_ 0 rfl), (fun k_ => (fun h_ => hF_ _ (mG 0 rfl) k_ h_)), hT_.below⟩
  ·refine rZ 5 ?_
   refine qI (x.kind == 2) (fun h5 => ?_) (fun h5 => ?_)
   ·refine rZ 5 ?_
    refine qC [.agg (encW w rw).toArray, .agg (encTake x.take).toArray] fun W_ hT_ hR_ => (k12_Step _ _ _ _ (wget hR_ 0 rfl)).mono ?_
    rintro e_ W1_ ⟨rx6_, rfl, hw6_, hf6_, hb_⟩
    refine ⟨_, [wRep ((m12Step w x.take).1) rx6_], rfl, hb_, (NewOk.cons hw6_ (hf6_.one (fun k_ => (fun h_ => ⟨_, mG 0 rfl, h_⟩))) NewOk.nil), ?_⟩
    refine rZ 26 ?_
    refine qS 60 ((m12Step w x.take).2).done (fun h7 => ?_) (fun h7 => ?_)
    ·refine rZ 8 ?_
     refine qD k14_Step.T15 [0, 0, 1, 7] [] [4, 1] [] ?_
     refine rO [0, 1, 2, 3] ?_
     refine rZ 7 ?_
     obtain ⟨m_, hq_, hm_⟩ := nm (m14Step w x)
     unfold m14Step at hm_
     simp only [bF h1, bF h2, bT h5, bT h7] at hm_
     refine qR [.agg (encW m_.1 rx6_).toArray, .agg (encAct m_.2).toArray] (fun W1_ hT_ hR_ hF_ => ?_) (h := by rewrite [← hm_]; kernel_rfl)
     rw [hq_, ← hm_]
     exact ⟨_, rfl, (wget hR_ 0 rfl), (fun k_ => (fun h_ => hF_ _ (mG 0 rfl) k_ h_)), hT_.below⟩
    ·refine rZ 8 ?_
     refine qD k14_Step.T15 [0, 0, 1, 7] [] [4, 1] [] ?_
     refine rO [0, 1, 2, 3] ?_
     refine rZ 7 ?_
     obtain ⟨m_, hq_, hm_⟩ := nm (m14Step w x)
     unfold m14Step at hm_
     simp only [bF h1, bF h2, bT h5, bF h7] at hm_
     refine qR [.agg (encW m_.1 rx6_).toArray, .agg (encAct m_.2).toArray] (fun W1_ hT_ hR_ hF_ => ?_) (h := by rewrite [← hm_]; kernel_rfl)
     rw [hq_, ← hm_]
     exact ⟨_, rfl, (wget hR_ 0 rfl), (fun k_ => (fun h_ => hF_ _ (mG 0 rfl) k_ h_)), hT_.below⟩
   ·refine rZ 5 ?_
    refine qI (x.kind == 3) (fun h8 => ?_) (fun h8 => ?_)
    ·refine rZ 5 ?_
     refine qC [.agg (encW w rw).toArray, .agg (encGet x.get).toArray] fun W_ hT_ hR_ => (k13_Step _ _ _ _ (wget hR_ 0 rfl)).mono ?_
     rintro e_ W1_ ⟨rx9_, rfl, hw9_, hf9_, hb_⟩
     refine ⟨_, [wRep ((m13Step w x.get).1) rx9_], rfl, hb_, (NewOk.cons hw9_ (hf9_.one (fun k_ => (fun h_ => ⟨_, mG 0 rfl, h_⟩))) NewOk.nil), ?_⟩
     refine rZ 27 ?_
     refine qS 84 ((m13Step w x.get).2).done (fun h10 => ?_) (fun h10 => ?_)
     ·refine rZ 5 ?_
      refine qI (decide (((m13Step w x.get).2).found ≥ 0)) (fun h11 => ?_) (fun h11 => ?_)
      ·refine rZ 6 ?_
       refine qV [.agg (encB w.b rw.r).toArray, .int .i64 ((m13Step w x.get).2).found] (fun W_ hT_ hR_ => c07_Call w.b rw.r ((m13Step w x.get).2).found _ (wget hR_ 1 rfl).b) ?_
       refine rZ 15 ?_
       refine qD k14_Step.T23 [0, 0, 1, 7] [] [4, 1] [] ?_
       refine rO [0, 1, 2, 3] ?_
       refine rZ 7 ?_
       obtain ⟨m_, hq_, hm_⟩ := nm (m14Step w x)
       unfold m14Step at hm_
       simp only [bF h1, bF h2, bF h5, bT h8, bT h10, bT h11] at hm_
       refine qR [.agg (encW m_.1 rx9_).toArray, .agg (encAct m_.2).toArray] (fun W1_ hT_ hR_ hF_ => ?_) (h := by rewrite [← hm_]; kernel_rfl)
       rw [hq_, ← hm_]
       exact ⟨_, rfl, (wget hR_ 0 rfl), (fun k_ => (fun h_ => hF_ _ (mG 0 rfl) k_ h_)), hT_.below⟩
      ·refine rZ 2 ?_
       refine qD k14_Step.T23 [0, 0, 1, 7] [] [4, 1] [] ?_
       refine rO [0, 1, 2, 3] ?_
       refine rZ 7 ?_
       obtain ⟨m_, hq_, hm_⟩ := nm (m14Step w x)
       unfold m14Step at hm_
       simp only [bF h1, bF h2, bF h5, bT h8, bT h10, bF h11] at hm_
       refine qR [.agg (encW m_.1 rx9_).toArray, .agg (encAct m_.2).toArray] (fun W1_ hT_ hR_ hF_ => ?_) (h := by rewrite [← hm_]; kernel_rfl)
       rw [hq_, ← hm_]
       exact ⟨_, rfl, (wget hR_ 0 rfl), (fun k_ => (fun h_ => hF_ _ (mG 0 rfl) k_ h_)), hT_.below⟩
     ·refine rZ 8 ?_
      refine qD k14_Step.T23 [0, 0, 1, 7] [] [4, 1] [] ?_
      refine rO [0, 1, 2, 3] ?_
      refine rZ 7 ?_
      obtain ⟨m_, hq_, hm_⟩ := nm (m14Step w x)
      unfold m14Step at hm_
      simp only [bF h1, bF h2, bF h5, bT h8, bF h10] at hm_
      refine qR [.agg (encW m_.1 rx9_).toArray, .agg (encAct m_.2).toArray] (fun W1_ hT_ hR_ hF_ => ?_) (h := by rewrite [← hm_]; kernel_rfl)
      rw [hq_, ← hm_]
      exact ⟨_, rfl, (wget hR_ 0 rfl), (fun k_ => (fun h_ => hF_ _ (mG 0 rfl) k_ h_)), hT_.below⟩
    ·refine rZ 8 ?_
     refine qD k14_Step.T25 [0, 0, 1, 7] [] [0, 1] [] ?_
     refine rO [0, 1, 2, 3] ?_
     refine rZ 7 ?_
     obtain ⟨m_, hq_, hm_⟩ := nm (m14Step w x)
     unfold m14Step at hm_
     simp only [bF h1, bF h2, bF h5, bF h8] at hm_
     refine qR [.agg (encW m_.1 rw).toArray, .agg (encAct m_.2).toArray] (fun W1_ hT_ hR_ hF_ => ?_) (h := by rewrite [← hm_]; kernel_rfl)
     rw [hq_, ← hm_]
     exact ⟨_, rfl, (wget hR_ 0 rfl), (fun k_ => (fun h_ => hF_ _ (mG 0 rfl) k_ h_)), hT_.below⟩
def m15New (a : Int) (b : Int) : HelpR := ⟨a, b, 0, zActR, false⟩
theorem k15_New (a : Int) (b : Int) (W : World) : Calls Try.prog 40 #[.int .i64 a, .int .i64 b] W (fun e W' => e = .returned (.agg (encHelp (m15New a b)).toArray) ∧ Below W.heap.size W W') := by
 refine rf_enter (args := [.int .i64 a, .int .i64 b]) [] Try.func40 rfl (by simp) ?_
 refine rX 11 ?_
 obtain ⟨m_, hq_, hm_⟩ := nm (m15New a b)
 unfold m15New at hm_
 refine qR [.agg (encHelp m_).toArray] (fun W1_ hT_ hR_ hF_ => ?_) (h := by rewrite [← hm_]; kernel_rfl)
 rw [hq_, ← hm_]
 exact ⟨rfl, hT_.below⟩
def k15_Step.T2 : Bool × List (List Nat × List Nat) := (true, [([], []), ([], []), ([0, 0], [0]), ([1, 2, 0, 1, 2], [1])])
def k15_Step.T7 : Bool × List (List Nat × List Nat) := (true, [([], []), ([], []), ([0, 0], [0]), ([1, 2, 0, 1, 2], [1])])
def k15_Step.T12 : Bool × List (List Nat × List Nat) := (true, [([], []), ([], []), ([0, 0], [0]), ([1, 2, 0, 1, 2], [1])])
def k15_Step.T17 : Bool × List (List Nat × List Nat) := (true, [([], []), ([], []), ([0, 0], [0]), ([1, 2, 0, 1, 2], [1])])
def k15_Step.T19 : Bool × List (List Nat × List Nat) := (true, [([], []), ([], []), ([0, 0], [0]), ([1, 2, 0, 1, 2], [1])])
def m15Step (w : RW) (x : HelpR) : RW × HelpR := (bif x.done then (w, x) else (bif (x.phase == 0) then (bif (decide ((m08Ann w x.whom).2 < 0)) then ((m08Ann w x.whom).1, ⟨x.thread, x.whom, x.phase, x.act, true⟩) else (bif (!((m14New ((m08Ann w x.whom).1) ((m08Ann w x.whom).2) x.thread false)).done) then ((m08Ann w x.whom).1, ⟨x.thread, x.whom, 1, (m14New ((m08Ann w x.whom).1) ((m08Ann w x.whom).2) x.thread false), ((m14New ((m08Ann w x.whom).1) ((m08Ann w x.whom).2) x.thread false)).done⟩) else ((m08Ann w x.whom).1, ⟨x.thread, x.whom, x.phase, (m14New ((m08Ann w x.whom).1) ((m08Ann w x.whom).2) x.thread false), ((m14New ((m08Ann w x.whom).1) ((m08Ann w x.whom).2) x.thread false)).done⟩))) else (bif (x.phase == 1) then ((m14Step w x.act).1, ⟨x.thread, x.whom, x.phase, (m14Step w x.act).2, ((m14Step w x.act).2).done⟩) else (w, ⟨x.thread, x.whom, x.phase, x.act, true⟩))))
theorem k15_Step (w : RW) (rw : RX) (x : HelpR) (W : World) (hW : WAt W w rw) : Calls Try.prog 48 #[.agg (encW w rw).toArray, .agg (encHelp x).toArray] W (fun e W' => ∃ r0 : RX, e = .returned (.tuple #[.agg (encW ((m15Step w x).1) r0).toArray, .agg (encHelp (m15Step w x).2).toArray]) ∧ WAt W' (m15Step w x).1 r0 ∧ FreshIn [wRep w rw] W (wRep (m15Step w x).1 r0) ∧ Below W.heap.size W W') := by
 refine rf_enter (args := [.agg (encW w rw).toArray, .agg (encHelp x).toArray]) [wRep w rw] Try.func48 rfl (by intro r hr; obtain rfl := List.mem_singleton.mp hr; exact hW) ?_
 refine rX 13 ?_
 refine qI x.done (fun h1 => ?_) (fun h1 => ?_)
 ·refine rZ 1 ?_
  refine qD k15_Step.T2 [0, 0, 1, 7] [] [0, 1] [] ?_
  refine rO [0, 1, 2, 3] ?_
  refine rZ 7 ?_
  obtain ⟨m_, hq_, hm_⟩ := nm (m15Step w x)
  unfold m15Step at hm_
  simp only [bT h1] at hm_
  refine qR [.agg (encW m_.1 rw).toArray, .agg (encHelp m_.2).toArray] (fun W1_ hT_ hR_ hF_ => ?_) (h := by rewrite [← hm_]; kernel_rfl)
  rw [hq_, ← hm_]
  exact ⟨_, rfl, (wget hR_ 0 rfl), (fun k_ => (fun h_ => hF_ _ (mG 0 rfl) k_ h_)), hT_.below⟩
 ·refine rZ 8 ?_
  refine qI (x.phase == 0) (fun h2 => ?_) (fun h2 => ?_)
  ·refine rZ 5 ?_
   refine qC [.agg (encW w rw).toArray, .int .i64 x.whom] fun W_ hT_ hR_ => (k08_Ann _ _ _ _ (wget hR_ 0 rfl)).mono ?_
   rintro e_ W1_ ⟨rx3_, rfl, hw3_, hf3_, hb_⟩
   refine ⟨_, [wRep ((m08Ann w x.whom).1) rx3_], rfl, hb_, (NewOk.cons hw3_ (hf3_.one (fun k_ => (fun h_ => ⟨_, mG 0 rfl, h_⟩))) NewOk.nil), ?_⟩
   refine rZ 13 ?_
   refine qI (decide ((m08Ann w x.whom).2 < 0)) (fun h4 => ?_) (fun h4 => ?_)
   ·refine rZ 6 ?_
    refine qD k15_Step.T7 [0, 0, 1, 7] [] [4, 1] [] ?_
    refine rO [0, 1, 2, 3] ?_
    refine rZ 7 ?_
    obtain ⟨m_, hq_, hm_⟩ := nm (m15Step w x)
    unfold m15Step at hm_
    simp only [bF h1, bT h2, bT h4] at hm_
    refine qR [.agg (encW m_.1 rx3_).toArray, .agg (encHelp m_.2).toArray] (fun W1_ hT_ hR_ hF_ => ?_) (h := by rewrite [← hm_]; kernel_rfl)
    rw [hq_, ← hm_]
    exact ⟨_, rfl, (wget hR_ 0 rfl), (fun k_ => (fun h_ => hF_ _ (mG 0 rfl) k_ h_)), hT_.below⟩
   ·refine rZ 7 ?_
    refine qV [.agg (encW ((m08Ann w x.whom).1) rx3_).toArray, .int .i64 ((m08Ann w x.whom).2), .int .i64 x.thread, .bool false] (fun W_ hT_ hR_ => k14_New _ _ _ _ _ _ (wget hR_ 0 rfl)) ?_
    refine rZ 18 ?_
    refine qI (!((m14New ((m08Ann w x.whom).1) ((m08Ann w x.whom).2) x.thread false)).done) (fun h5 => ?_) (fun h5 => ?_)
    ·refine rZ 5 ?_
     refine qD k15_Step.T12 [0, 0, 1, 7] [] [4, 1] [] ?_
     refine rO [0, 1, 2, 3] ?_
     refine rZ 7 ?_
     obtain ⟨m_, hq_, hm_⟩ := nm (m15Step w x)
     unfold m15Step at hm_
     simp only [bF h1, bT h2, bF h4, bT h5] at hm_
     refine qR [.agg (encW m_.1 rx3_).toArray, .agg (encHelp m_.2).toArray] (fun W1_ hT_ hR_ hF_ => ?_) (h := by rewrite [← hm_]; kernel_rfl)
     rw [hq_, ← hm_]
     exact ⟨_, rfl, (wget hR_ 0 rfl), (fun k_ => (fun h_ => hF_ _ (mG 0 rfl) k_ h_)), hT_.below⟩
    ·refine rZ 2 ?_
     refine qD k15_Step.T12 [0, 0, 1, 7] [] [4, 1] [] ?_
     refine rO [0, 1, 2, 3] ?_
     refine rZ 7 ?_
     obtain ⟨m_, hq_, hm_⟩ := nm (m15Step w x)
     unfold m15Step at hm_
     simp only [bF h1, bT h2, bF h4, bF h5] at hm_
     refine qR [.agg (encW m_.1 rx3_).toArray, .agg (encHelp m_.2).toArray] (fun W1_ hT_ hR_ hF_ => ?_) (h := by rewrite [← hm_]; kernel_rfl)
     rw [hq_, ← hm_]
     exact ⟨_, rfl, (wget hR_ 0 rfl), (fun k_ => (fun h_ => hF_ _ (mG 0 rfl) k_ h_)), hT_.below⟩
  ·refine rZ 8 ?_
   refine qI (x.phase == 1) (fun h6 => ?_) (fun h6 => ?_)
   ·refine rZ 5 ?_
    refine qC [.agg (encW w rw).toArray, .agg (encAct x.act).toArray] fun W_ hT_ hR_ => (k14_Step _ _ _ _ (wget hR_ 0 rfl)).mono ?_
    rintro e_ W1_ ⟨rx7_, rfl, hw7_, hf7_, hb_⟩
    refine ⟨_, [wRep ((m14Step w x.act).1) rx7_], rfl, hb_, (NewOk.cons hw7_ (hf7_.one (fun k_ => (fun h_ => ⟨_, mG 0 rfl, h_⟩))) NewOk.nil), ?_⟩
    refine rZ 22 ?_
    refine qD k15_Step.T17 [0, 0, 1, 7] [] [4, 1] [] ?_
    refine rO [0, 1, 2, 3] ?_
    refine rZ 7 ?_
    obtain ⟨m_, hq_, hm_⟩ := nm (m15Step w x)
    unfold m15Step at hm_
    simp only [bF h1, bF h2, bT h6] at hm_
    refine qR [.agg (encW m_.1 rx7_).toArray, .agg (encHelp m_.2).toArray] (fun W1_ hT_ hR_ hF_ => ?_) (h := by rewrite [← hm_]; kernel_rfl)
    rw [hq_, ← hm_]
    exact ⟨_, rfl, (wget hR_ 0 rfl), (fun k_ => (fun h_ => hF_ _ (mG 0 rfl) k_ h_)), hT_.below⟩
   ·refine rZ 7 ?_
    refine qD k15_Step.T19 [0, 0, 1, 7] [] [0, 1] [] ?_
    refine rO [0, 1, 2, 3] ?_
    refine rZ 7 ?_
    obtain ⟨m_, hq_, hm_⟩ := nm (m15Step w x)
    unfold m15Step at hm_
    simp only [bF h1, bF h2, bF h6] at hm_
    refine qR [.agg (encW m_.1 rw).toArray, .agg (encHelp m_.2).toArray] (fun W1_ hT_ hR_ hF_ => ?_) (h := by rewrite [← hm_]; kernel_rfl)
    rw [hq_, ← hm_]
    exact ⟨_, rfl, (wget hR_ 0 rfl), (fun k_ => (fun h_ => hF_ _ (mG 0 rfl) k_ h_)), hT_.below⟩
end Go.Proofs.Ytbhakljebcmocaa.PBoundKeeps
end
section
namespace Go.Proofs.Ytbhakljebcmocaa.PBoundKeeps
open Go.RowKit Go.Proofs.YtbhakljebcmocaaW.PrintWords Go.Proofs.YtbhakljebcmocaaW.PrintLast Go.Proofs.YtbhakljebcmocaaW.PrintMore
set_option linter.unusedVariables false
set_option maxHeartbeats 1000000
set_option maxRecDepth 100000
set_option linter.unusedSimpArgs false
def k16_New.T7 : Bool × List (List Nat × List Nat) := (true, [([], []), ([], []), ([], []), ([], []), ([3], [3]), ([4], [4]), ([], []), ([], []), ([6, 7], [6, 7]), ([1, 2, 5, 8], [1, 2, 5, 8]), ([0, 8, 0], [0]), ([9, 10, 0, 1, 2, 3, 4, 5, 6, 7, 8, 9, 10], [9])])
def m16New (w : RW) (t : Int) (n : Int) (x : S48) : RW × CallR := (bif (decide (x.f0 < 1)) then (w, ⟨0, 0, 0, 0, false, zHelpR, zActR, true, ⟨1, false, 0⟩⟩) else (bif (decide (x.f0 > 3)) then (w, ⟨0, 0, 0, 0, false, zHelpR, zActR, true, ⟨1, false, 0⟩⟩) else (bif ((m07Begin w.b t x).2.2 != 0) then ((RW.mk w.c w.ws w.st ((m07Begin w.b t x).1)), ⟨t, 0, 0, 0, false, zHelpR, zActR, true, ⟨(m07Begin w.b t x).2.2, false, 0⟩⟩) else ((RW.mk w.c w.ws w.st ((m07Begin w.b t x).1)), ⟨t, (m07Begin w.b t x).2.1, 0, w.c.f3, false, (m15New t n), zActR, false, zResR⟩))))
theorem k16_New (w : RW) (rw : RX) (t : Int) (n : Int) (x : S48) (W : World) (hW : WAt W w rw) : Calls Try.prog 34 #[.agg (encW w rw).toArray, .int .i64 t, .int .i64 n, .agg (encCall x).toArray] W (fun e W' => ∃ r0 : RX, e = .returned (.tuple #[.agg (encW ((m16New w t n x).1) r0).toArray, .agg (encCallR (m16New w t n x).2).toArray]) ∧ WAt W' (m16New w t n x).1 r0 ∧ FreshIn [wRep w rw] W (wRep (m16New w t n x).1 r0) ∧ Below W.heap.size W W') := by
 refine rf_enter (args := [.agg (encW w rw).toArray, .int .i64 t, .int .i64 n, .agg (encCall x).toArray]) [wRep w rw] Try.func34 rfl (by intro r hr; obtain rfl := List.mem_singleton.mp hr; exact hW) ?_
 refine rX 14 ?_
 refine qS 16 (decide (x.f0 < 1)) (fun h1 => ?_) (fun h1 => ?_)
 ·refine rZ 14 ?_
  obtain ⟨m_, hq_, hm_⟩ := nm (m16New w t n x)
  unfold m16New at hm_
  simp only [bT h1] at hm_
  refine qR [.agg (encW m_.1 rw).toArray, .agg (encCallR m_.2).toArray] (fun W1_ hT_ hR_ hF_ => ?_) (h := by rewrite [← hm_]; kernel_rfl)
  rw [hq_, ← hm_]
  exact ⟨_, rfl, (wget hR_ 0 rfl), (fun k_ => (fun h_ => hF_ _ (mG 0 rfl) k_ h_)), hT_.below⟩
 ·refine rZ 5 ?_
  refine qI (decide (x.f0 > 3)) (fun h2 => ?_) (fun h2 => ?_)
  ·refine rZ 8 ?_
   obtain ⟨m_, hq_, hm_⟩ := nm (m16New w t n x)
   unfold m16New at hm_
   simp only [bF h1, bT h2] at hm_
   refine qR [.agg (encW m_.1 rw).toArray, .agg (encCallR m_.2).toArray] (fun W1_ hT_ hR_ hF_ => ?_) (h := by rewrite [← hm_]; kernel_rfl)
   rw [hq_, ← hm_]
   exact ⟨_, rfl, (wget hR_ 0 rfl), (fun k_ => (fun h_ => hF_ _ (mG 0 rfl) k_ h_)), hT_.below⟩
  ·refine rZ 7 ?_
   refine qC [.agg (encB w.b rw.r).toArray, .int .i64 t, .agg #[.int .i64 x.f0, .int .u64 x.f1, .int .u64 x.f2, .int .i64 x.f3]] fun W_ hT_ hR_ => (k07_Begin _ _ _ x _ (wget hR_ 0 rfl).b).mono ?_
   rintro e_ W1_ ⟨rx3_, rfl, hw3_, hf3_, hb_⟩
   refine ⟨_, [bRep ((m07Begin w.b t x).1) rx3_], rfl, hb_, (NewOk.cons hw3_ (hf3_.one (fun k_ => (fun h_ => ⟨_, mG 0 rfl, (.inr h_)⟩))) NewOk.nil), ?_⟩
   refine rZ 21 ?_
   refine qI ((m07Begin w.b t x).2.2 != 0) (fun h4 => ?_) (fun h4 => ?_)
   ·refine rZ 10 ?_
    obtain ⟨m_, hq_, hm_⟩ := nm (m16New w t n x)
    unfold m16New at hm_
    simp only [bF h1, bF h2, bT h4] at hm_
    refine qR [.agg (encW m_.1 (RX.mk rw.A rw.C rx3_)).toArray, .agg (encCallR m_.2).toArray] (fun W1_ hT_ hR_ hF_ => ?_) (h := by rewrite [← hm_]; kernel_rfl)
    rw [hq_, ← hm_]
    exact ⟨_, rfl, ⟨(wget hR_ 1 rfl).m, (wget hR_ 1 rfl).l, (wget hR_ 1 rfl).s, (bget hR_ 0 rfl)⟩, (fun k_ => (fun h_ => h_.elim (fun h_ => hF_ _ (mG 1 rfl) k_ (.inl h_)) (fun h_ => hF_ _ (mG 0 rfl) k_ h_))), hT_.below⟩
   ·refine rZ 2 ?_
    refine qD k16_New.T7 [0, 0, 0, 0, 8, 24, 0, 0, 192, 510, 449, 2047] [] [0] [] ?_
    refine rO [0, 1, 2, 3, 4, 5, 6, 7, 8, 9, 10, 11] ?_
    refine rZ 9 ?_
    refine qV [.int .i64 t, .int .i64 n] (fun W_ hT_ hR_ => k15_New _ _ _) ?_
    refine rZ 6 ?_
    obtain ⟨m_, hq_, hm_⟩ := nm (m16New w t n x)
    unfold m16New at hm_
    simp only [bF h1, bF h2, bF h4] at hm_
    refine qR [.agg (encW m_.1 (RX.mk rw.A rw.C rx3_)).toArray, .agg (encCallR m_.2).toArray] (fun W1_ hT_ hR_ hF_ => ?_) (h := by rewrite [← hm_]; kernel_rfl)
    rw [hq_, ← hm_]
    exact ⟨_, rfl, ⟨(wget hR_ 1 rfl).m, (wget hR_ 1 rfl).l, (wget hR_ 1 rfl).s, (bget hR_ 0 rfl)⟩, (fun k_ => (fun h_ => h_.elim (fun h_ => hF_ _ (mG 1 rfl) k_ (.inl h_)) (fun h_ => hF_ _ (mG 0 rfl) k_ h_))), hT_.below⟩
def k16_own.T3 : Bool × List (List Nat × List Nat) := (true, [([], []), ([], []), ([1], [1]), ([], []), ([3], [3]), ([0, 2, 4], [0, 2, 4]), ([], []), ([5, 5, 0, 1, 2, 3, 4, 5], [5]), ([6, 7, 0, 1, 2, 3, 4, 5, 6, 7], [6])])
def k16_own.T13 : Bool × List (List Nat × List Nat) := (true, [([], []), ([], []), ([0, 0], [0]), ([1, 2, 0, 1, 2], [1])])
def m16Own (w : RW) (x : CallR) : RW × CallR := (bif (x.fuel == 0) then (bif (!x.said) then ((m08Say w x.thread x.op), ⟨x.thread, x.op, x.phase, x.fuel, true, x.help, x.act, x.done, x.result⟩) else (bif (decide (x.fuel > 0)) then (bif ((m14Step w x.act).2).done then ((m14Step w x.act).1, ⟨x.thread, x.op, 2, (IntKind.i64.wrap (x.fuel - 1)), x.said, x.help, (m14Step w x.act).2, x.done, ((m14Step w x.act).2).result⟩) else ((m14Step w x.act).1, ⟨x.thread, x.op, x.phase, (IntKind.i64.wrap (x.fuel - 1)), x.said, x.help, (m14Step w x.act).2, x.done, x.result⟩)) else (bif ((m14Step w x.act).2).done then ((m14Step w x.act).1, ⟨x.thread, x.op, 2, x.fuel, x.said, x.help, (m14Step w x.act).2, x.done, ((m14Step w x.act).2).result⟩) else ((m14Step w x.act).1, ⟨x.thread, x.op, x.phase, x.fuel, x.said, x.help, (m14Step w x.act).2, x.done, x.result⟩)))) else (bif (decide (x.fuel > 0)) then (bif ((m14Step w x.act).2).done then (bif x.said then ((m14Step w x.act).1, ⟨x.thread, x.op, 2, (IntKind.i64.wrap (x.fuel - 1)), x.said, x.help, (m14Step w x.act).2, x.done, ((m14Step w x.act).2).result⟩) else ((m14Step w x.act).1, ⟨x.thread, x.op, x.phase, (IntKind.i64.wrap (x.fuel - 1)), x.said, x.help, (m14Step w x.act).2, true, ((m14Step w x.act).2).result⟩)) else ((m14Step w x.act).1, ⟨x.thread, x.op, x.phase, (IntKind.i64.wrap (x.fuel - 1)), x.said, x.help, (m14Step w x.act).2, x.done, x.result⟩)) else (bif ((m14Step w x.act).2).done then (bif x.said then ((m14Step w x.act).1, ⟨x.thread, x.op, 2, x.fuel, x.said, x.help, (m14Step w x.act).2, x.done, ((m14Step w x.act).2).result⟩) else ((m14Step w x.act).1, ⟨x.thread, x.op, x.phase, x.fuel, x.said, x.help, (m14Step w x.act).2, true, ((m14Step w x.act).2).result⟩)) else ((m14Step w x.act).1, ⟨x.thread, x.op, x.phase, x.fuel, x.said, x.help, (m14Step w x.act).2, x.done, x.result⟩))))
theorem k16_own (w : RW) (rw : RX) (x : CallR) (W : World) (hW : WAt W w rw) : Calls Try.prog 50 #[.agg (encW w rw).toArray, .agg (encCallR x).toArray] W (fun e W' => ∃ r0 : RX, e = .returned (.tuple #[.agg (encW ((m16Own w x).1) r0).toArray, .agg (encCallR (m16Own w x).2).toArray]) ∧ WAt W' (m16Own w x).1 r0 ∧ FreshIn [wRep w rw] W (wRep (m16Own w x).1 r0) ∧ Below W.heap.size W W') := by
 refine rf_enter (args := [.agg (encW w rw).toArray, .agg (encCallR x).toArray]) [wRep w rw] Try.func50 rfl (by intro r hr; obtain rfl := List.mem_singleton.mp hr; exact hW) ?_
 refine rX 14 ?_
 refine qS 11 (x.fuel == 0) (fun h1 => ?_) (fun h1 => ?_)
 ·refine rZ 5 ?_
  refine qI (!x.said) (fun h2 => ?_) (fun h2 => ?_)
  ·refine rZ 6 ?_
   refine qD k16_own.T3 [0, 0, 2, 0, 8, 31, 0, 63, 255] [] [0, 1] [] ?_
   refine rO [0, 1, 2, 3, 4, 6, 5, 7, 8] ?_
   refine rZ 7 ?_
   refine qC [.agg (encW w rw).toArray, .int .i64 x.thread, .int .i64 x.op] fun W_ hT_ hR_ => (k08_Say _ _ _ _ _ (wget hR_ 0 rfl)).mono ?_
   rintro e_ W1_ ⟨rx3_, rfl, hw3_, hf3_, hb_⟩
   refine ⟨_, [wRep (m08Say w x.thread x.op) rx3_], rfl, hb_, (NewOk.cons hw3_ (hf3_.one (fun k_ => (fun h_ => ⟨_, mG 0 rfl, h_⟩))) NewOk.nil), ?_⟩
   refine rZ 5 ?_
   obtain ⟨m_, hq_, hm_⟩ := nm (m16Own w x)
   unfold m16Own at hm_
   simp only [bT h1, bT h2] at hm_
   refine qR [.agg (encW m_.1 rx3_).toArray, .agg (encCallR m_.2).toArray] (fun W1_ hT_ hR_ hF_ => ?_) (h := by rewrite [← hm_]; kernel_rfl)
   rw [hq_, ← hm_]
   exact ⟨_, rfl, (wget hR_ 0 rfl), (fun k_ => (fun h_ => hF_ _ (mG 0 rfl) k_ h_)), hT_.below⟩
  ·refine rZ 6 ?_
   refine qC [.agg (encW w rw).toArray, .agg (encAct x.act).toArray] fun W_ hT_ hR_ => (k14_Step _ _ _ _ (wget hR_ 0 rfl)).mono ?_
   rintro e_ W1_ ⟨rx4_, rfl, hw4_, hf4_, hb_⟩
   refine ⟨_, [wRep ((m14Step w x.act).1) rx4_], rfl, hb_, (NewOk.cons hw4_ (hf4_.one (fun k_ => (fun h_ => ⟨_, mG 0 rfl, h_⟩))) NewOk.nil), ?_⟩
   refine rZ 21 ?_
   refine qI (decide (x.fuel > 0)) (fun h5 => ?_) (fun h5 => ?_)
   ·refine rZ 13 ?_
    refine qI ((m14Step w x.act).2).done (fun h6 => ?_) (fun h6 => ?_)
    ·refine rZ 12 ?_
     refine qI x.said (fun hx_ => ?_) (fun hx_ => by rw [hx_] at h2; exact absurd h2 (by decide))
     clear hx_
     refine rZ 5 ?_
     refine qD k16_own.T13 [0, 0, 1, 7] [] [4, 1] [] ?_
     refine rO [0, 1, 2, 3] ?_
     refine rZ 7 ?_
     obtain ⟨m_, hq_, hm_⟩ := nm (m16Own w x)
     unfold m16Own at hm_
     simp only [bT h1, bF h2, bT h5, bT h6] at hm_
     refine qR [.agg (encW m_.1 rx4_).toArray, .agg (encCallR m_.2).toArray] (fun W1_ hT_ hR_ hF_ => ?_) (h := by rewrite [← hm_]; kernel_rfl)
     rw [hq_, ← hm_]
     exact ⟨_, rfl, (wget hR_ 0 rfl), (fun k_ => (fun h_ => hF_ _ (mG 0 rfl) k_ h_)), hT_.below⟩
    ·refine rZ 2 ?_
     refine qD k16_own.T13 [0, 0, 1, 7] [] [4, 1] [] ?_
     refine rO [0, 1, 2, 3] ?_
     refine rZ 7 ?_
     obtain ⟨m_, hq_, hm_⟩ := nm (m16Own w x)
     unfold m16Own at hm_
     simp only [bT h1, bF h2, bT h5, bF h6] at hm_
     refine qR [.agg (encW m_.1 rx4_).toArray, .agg (encCallR m_.2).toArray] (fun W1_ hT_ hR_ hF_ => ?_) (h := by rewrite [← hm_]; kernel_rfl)
     rw [hq_, ← hm_]
     exact ⟨_, rfl, (wget hR_ 0 rfl), (fun k_ => (fun h_ => hF_ _ (mG 0 rfl) k_ h_)), hT_.below⟩
   ·refine rZ 7 ?_
    refine qI ((m14Step w x.act).2).done (fun h8 => ?_) (fun h8 => ?_)
    ·refine rZ 12 ?_
     refine qI x.said (fun hx_ => ?_) (fun hx_ => by rw [hx_] at h2; exact absurd h2 (by decide))
     clear hx_
     refine rZ 5 ?_
     refine qD k16_own.T13 [0, 0, 1, 7] [] [4, 1] [] ?_
     refine rO [0, 1, 2, 3] ?_
     refine rZ 7 ?_
     obtain ⟨m_, hq_, hm_⟩ := nm (m16Own w x)
     unfold m16Own at hm_
     simp only [bT h1, bF h2, bF h5, bT h8] at hm_
     refine qR [.agg (encW m_.1 rx4_).toArray, .agg (encCallR m_.2).toArray] (fun W1_ hT_ hR_ hF_ => ?_) (h := by rewrite [← hm_]; kernel_rfl)
     rw [hq_, ← hm_]
     exact ⟨_, rfl, (wget hR_ 0 rfl), (fun k_ => (fun h_ => hF_ _ (mG 0 rfl) k_ h_)), hT_.below⟩
    ·refine rZ 2 ?_
     refine qD k16_own.T13 [0, 0, 1, 7] [] [4, 1] [] ?_
     refine rO [0, 1, 2, 3] ?_
     refine rZ 7 ?_
     obtain ⟨m_, hq_, hm_⟩ := nm (m16Own w x)
     unfold m16Own at hm_
     simp only [bT h1, bF h2, bF h5, bF h8] at hm_
     refine qR [.agg (encW m_.1 rx4_).toArray, .agg (encCallR m_.2).toArray] (fun W1_ hT_ hR_ hF_ => ?_) (h := by rewrite [← hm_]; kernel_rfl)
     rw [hq_, ← hm_]
     exact ⟨_, rfl, (wget hR_ 0 rfl), (fun k_ => (fun h_ => hF_ _ (mG 0 rfl) k_ h_)), hT_.below⟩
 ·refine rZ 12 ?_
  refine qC [.agg (encW w rw).toArray, .agg (encAct x.act).toArray] fun W_ hT_ hR_ => (k14_Step _ _ _ _ (wget hR_ 0 rfl)).mono ?_
  rintro e_ W1_ ⟨rx10_, rfl, hw10_, hf10_, hb_⟩
  refine ⟨_, [wRep ((m14Step w x.act).1) rx10_], rfl, hb_, (NewOk.cons hw10_ (hf10_.one (fun k_ => (fun h_ => ⟨_, mG 0 rfl, h_⟩))) NewOk.nil), ?_⟩
  refine rZ 21 ?_
  refine qI (decide (x.fuel > 0)) (fun h11 => ?_) (fun h11 => ?_)
  ·refine rZ 13 ?_
   refine qI ((m14Step w x.act).2).done (fun h12 => ?_) (fun h12 => ?_)
   ·refine rZ 12 ?_
    refine qI x.said (fun h13 => ?_) (fun h13 => ?_)
    ·refine rZ 5 ?_
     refine qD k16_own.T13 [0, 0, 1, 7] [] [4, 1] [] ?_
     refine rO [0, 1, 2, 3] ?_
     refine rZ 7 ?_
     obtain ⟨m_, hq_, hm_⟩ := nm (m16Own w x)
     unfold m16Own at hm_
     simp only [bF h1, bT h11, bT h12, bT h13] at hm_
     refine qR [.agg (encW m_.1 rx10_).toArray, .agg (encCallR m_.2).toArray] (fun W1_ hT_ hR_ hF_ => ?_) (h := by rewrite [← hm_]; kernel_rfl)
     rw [hq_, ← hm_]
     exact ⟨_, rfl, (wget hR_ 0 rfl), (fun k_ => (fun h_ => hF_ _ (mG 0 rfl) k_ h_)), hT_.below⟩
    ·refine rZ 5 ?_
     refine qD k16_own.T13 [0, 0, 1, 7] [] [4, 1] [] ?_
     refine rO [0, 1, 2, 3] ?_
     refine rZ 7 ?_
     obtain ⟨m_, hq_, hm_⟩ := nm (m16Own w x)
     unfold m16Own at hm_
     simp only [bF h1, bT h11, bT h12, bF h13] at hm_
     refine qR [.agg (encW m_.1 rx10_).toArray, .agg (encCallR m_.2).toArray] (fun W1_ hT_ hR_ hF_ => ?_) (h := by rewrite [← hm_]; kernel_rfl)
     rw [hq_, ← hm_]
     exact ⟨_, rfl, (wget hR_ 0 rfl), (fun k_ => (fun h_ => hF_ _ (mG 0 rfl) k_ h_)), hT_.below⟩
   ·refine rZ 2 ?_
    refine qD k16_own.T13 [0, 0, 1, 7] [] [4, 1] [] ?_
    refine rO [0, 1, 2, 3] ?_
    refine rZ 7 ?_
    obtain ⟨m_, hq_, hm_⟩ := nm (m16Own w x)
    unfold m16Own at hm_
    simp only [bF h1, bT h11, bF h12] at hm_
    refine qR [.agg (encW m_.1 rx10_).toArray, .agg (encCallR m_.2).toArray] (fun W1_ hT_ hR_ hF_ => ?_) (h := by rewrite [← hm_]; kernel_rfl)
    rw [hq_, ← hm_]
    exact ⟨_, rfl, (wget hR_ 0 rfl), (fun k_ => (fun h_ => hF_ _ (mG 0 rfl) k_ h_)), hT_.below⟩
  ·refine rZ 7 ?_
   refine qI ((m14Step w x.act).2).done (fun h14 => ?_) (fun h14 => ?_)
   ·refine rZ 12 ?_
    refine qI x.said (fun h15 => ?_) (fun h15 => ?_)
    ·refine rZ 5 ?_
     refine qD k16_own.T13 [0, 0, 1, 7] [] [4, 1] [] ?_
     refine rO [0, 1, 2, 3] ?_
     refine rZ 7 ?_
     obtain ⟨m_, hq_, hm_⟩ := nm (m16Own w x)
     unfold m16Own at hm_
     simp only [bF h1, bF h11, bT h14, bT h15] at hm_
     refine qR [.agg (encW m_.1 rx10_).toArray, .agg (encCallR m_.2).toArray] (fun W1_ hT_ hR_ hF_ => ?_) (h := by rewrite [← hm_]; kernel_rfl)
     rw [hq_, ← hm_]
     exact ⟨_, rfl, (wget hR_ 0 rfl), (fun k_ => (fun h_ => hF_ _ (mG 0 rfl) k_ h_)), hT_.below⟩
    ·refine rZ 5 ?_
     refine qD k16_own.T13 [0, 0, 1, 7] [] [4, 1] [] ?_
     refine rO [0, 1, 2, 3] ?_
     refine rZ 7 ?_
     obtain ⟨m_, hq_, hm_⟩ := nm (m16Own w x)
     unfold m16Own at hm_
     simp only [bF h1, bF h11, bT h14, bF h15] at hm_
     refine qR [.agg (encW m_.1 rx10_).toArray, .agg (encCallR m_.2).toArray] (fun W1_ hT_ hR_ hF_ => ?_) (h := by rewrite [← hm_]; kernel_rfl)
     rw [hq_, ← hm_]
     exact ⟨_, rfl, (wget hR_ 0 rfl), (fun k_ => (fun h_ => hF_ _ (mG 0 rfl) k_ h_)), hT_.below⟩
   ·refine rZ 2 ?_
    refine qD k16_own.T13 [0, 0, 1, 7] [] [4, 1] [] ?_
    refine rO [0, 1, 2, 3] ?_
    refine rZ 7 ?_
    obtain ⟨m_, hq_, hm_⟩ := nm (m16Own w x)
    unfold m16Own at hm_
    simp only [bF h1, bF h11, bF h14] at hm_
    refine qR [.agg (encW m_.1 rx10_).toArray, .agg (encCallR m_.2).toArray] (fun W1_ hT_ hR_ hF_ => ?_) (h := by rewrite [← hm_]; kernel_rfl)
    rw [hq_, ← hm_]
    exact ⟨_, rfl, (wget hR_ 0 rfl), (fun k_ => (fun h_ => hF_ _ (mG 0 rfl) k_ h_)), hT_.below⟩
def k16_Step.T2 : Bool × List (List Nat × List Nat) := (true, [([], []), ([], []), ([0, 0], [0]), ([1, 2, 0, 1, 2], [1])])
def k16_Step.T10 : Bool × List (List Nat × List Nat) := (true, [([], []), ([], []), ([0, 0], [0]), ([1, 2, 0, 1, 2], [1])])
def k16_Step.T15 : Bool × List (List Nat × List Nat) := (true, [([], []), ([], []), ([1], [1]), ([0, 2], [0, 2]), ([], []), ([3, 3, 0, 1, 2, 3], [3]), ([4, 5, 0, 1, 2, 3, 4, 5], [4])])
def k16_Step.T17 : Bool × List (List Nat × List Nat) := (true, [([], []), ([], []), ([0, 0], [0]), ([1, 2, 0, 1, 2], [1])])
def m16Step (w : RW) (x : CallR) : RW × CallR := (bif x.done then (w, x) else (bif (x.phase == 0) then (bif ((m15Step w x.help).2).done then ((m15Step w x.help).1, ⟨x.thread, x.op, 1, x.fuel, x.said, (m15Step w x.help).2, (m14New ((m15Step w x.help).1) x.op x.thread true), x.done, x.result⟩) else ((m15Step w x.help).1, ⟨x.thread, x.op, x.phase, x.fuel, x.said, (m15Step w x.help).2, x.act, x.done, x.result⟩)) else (bif (x.phase == 1) then ((m16Own w x).1, (m16Own w x).2) else (bif (x.phase == 2) then ((m08Say w x.thread (-1)), ⟨x.thread, x.op, x.phase, x.fuel, x.said, x.help, x.act, true, x.result⟩) else (w, ⟨x.thread, x.op, x.phase, x.fuel, x.said, x.help, x.act, true, x.result⟩)))))
theorem k16_Step (w : RW) (rw : RX) (x : CallR) (W : World) (hW : WAt W w rw) : Calls Try.prog 36 #[.agg (encW w rw).toArray, .agg (encCallR x).toArray] W (fun e W' => ∃ r0 : RX, e = .returned (.tuple #[.agg (encW ((m16Step w x).1) r0).toArray, .agg (encCallR (m16Step w x).2).toArray]) ∧ WAt W' (m16Step w x).1 r0 ∧ FreshIn [wRep w rw] W (wRep (m16Step w x).1 r0) ∧ Below W.heap.size W W') := by
 refine rf_enter (args := [.agg (encW w rw).toArray, .agg (encCallR x).toArray]) [wRep w rw] Try.func36 rfl (by intro r hr; obtain rfl := List.mem_singleton.mp hr; exact hW) ?_
 refine rX 13 ?_
 refine qI x.done (fun h1 => ?_) (fun h1 => ?_)
 ·refine rZ 1 ?_
  refine qD k16_Step.T2 [0, 0, 1, 7] [] [0, 1] [] ?_
  refine rO [0, 1, 2, 3] ?_
  refine rZ 7 ?_
  obtain ⟨m_, hq_, hm_⟩ := nm (m16Step w x)
  unfold m16Step at hm_
  simp only [bT h1] at hm_
  refine qR [.agg (encW m_.1 rw).toArray, .agg (encCallR m_.2).toArray] (fun W1_ hT_ hR_ hF_ => ?_) (h := by rewrite [← hm_]; kernel_rfl)
  rw [hq_, ← hm_]
  exact ⟨_, rfl, (wget hR_ 0 rfl), (fun k_ => (fun h_ => hF_ _ (mG 0 rfl) k_ h_)), hT_.below⟩
 ·refine rZ 13 ?_
  refine qI (x.phase == 0) (fun h2 => ?_) (fun h2 => ?_)
  ·refine rZ 5 ?_
   refine qC [.agg (encW w rw).toArray, .agg (encHelp x.help).toArray] fun W_ hT_ hR_ => (k15_Step _ _ _ _ (wget hR_ 0 rfl)).mono ?_
   rintro e_ W1_ ⟨rx3_, rfl, hw3_, hf3_, hb_⟩
   refine ⟨_, [wRep ((m15Step w x.help).1) rx3_], rfl, hb_, (NewOk.cons hw3_ (hf3_.one (fun k_ => (fun h_ => ⟨_, mG 0 rfl, h_⟩))) NewOk.nil), ?_⟩
   refine rZ 20 ?_
   refine qI ((m15Step w x.help).2).done (fun h4 => ?_) (fun h4 => ?_)
   ·refine rZ 7 ?_
    refine qV [.agg (encW ((m15Step w x.help).1) rx3_).toArray, .int .i64 x.op, .int .i64 x.thread, .bool true] (fun W_ hT_ hR_ => k14_New _ _ _ _ _ _ (wget hR_ 0 rfl)) ?_
    refine rZ 8 ?_
    refine qD k16_Step.T10 [0, 0, 1, 7] [] [4, 1] [] ?_
    refine rO [0, 1, 2, 3] ?_
    refine rZ 7 ?_
    obtain ⟨m_, hq_, hm_⟩ := nm (m16Step w x)
    unfold m16Step at hm_
    simp only [bF h1, bT h2, bT h4] at hm_
    refine qR [.agg (encW m_.1 rx3_).toArray, .agg (encCallR m_.2).toArray] (fun W1_ hT_ hR_ hF_ => ?_) (h := by rewrite [← hm_]; kernel_rfl)
    rw [hq_, ← hm_]
    exact ⟨_, rfl, (wget hR_ 0 rfl), (fun k_ => (fun h_ => hF_ _ (mG 0 rfl) k_ h_)), hT_.below⟩
   ·refine rZ 2 ?_
    refine qD k16_Step.T10 [0, 0, 1, 7] [] [4, 1] [] ?_
    refine rO [0, 1, 2, 3] ?_
    refine rZ 7 ?_
    obtain ⟨m_, hq_, hm_⟩ := nm (m16Step w x)
    unfold m16Step at hm_
    simp only [bF h1, bT h2, bF h4] at hm_
    refine qR [.agg (encW m_.1 rx3_).toArray, .agg (encCallR m_.2).toArray] (fun W1_ hT_ hR_ hF_ => ?_) (h := by rewrite [← hm_]; kernel_rfl)
    rw [hq_, ← hm_]
    exact ⟨_, rfl, (wget hR_ 0 rfl), (fun k_ => (fun h_ => hF_ _ (mG 0 rfl) k_ h_)), hT_.below⟩
  ·refine rZ 5 ?_
   refine qI (x.phase == 1) (fun h5 => ?_) (fun h5 => ?_)
   ·refine rZ 4 ?_
    refine qC [.agg (encW w rw).toArray, .agg (encCallR x).toArray] fun W_ hT_ hR_ => (k16_own _ _ _ _ (wget hR_ 0 rfl)).mono ?_
    rintro e_ W1_ ⟨rx6_, rfl, hw6_, hf6_, hb_⟩
    refine ⟨_, [wRep ((m16Own w x).1) rx6_], rfl, hb_, (NewOk.cons hw6_ (hf6_.one (fun k_ => (fun h_ => ⟨_, mG 0 rfl, h_⟩))) NewOk.nil), ?_⟩
    refine rZ 5 ?_
    obtain ⟨m_, hq_, hm_⟩ := nm (m16Step w x)
    unfold m16Step at hm_
    simp only [bF h1, bF h2, bT h5] at hm_
    refine qR [.agg (encW m_.1 rx6_).toArray, .agg (encCallR m_.2).toArray] (fun W1_ hT_ hR_ hF_ => ?_) (h := by rewrite [← hm_]; kernel_rfl)
    rw [hq_, ← hm_]
    exact ⟨_, rfl, (wget hR_ 0 rfl), (fun k_ => (fun h_ => hF_ _ (mG 0 rfl) k_ h_)), hT_.below⟩
   ·refine rZ 5 ?_
    refine qI (x.phase == 2) (fun h7 => ?_) (fun h7 => ?_)
    ·refine rZ 6 ?_
     refine qD k16_Step.T15 [0, 0, 2, 7, 0, 15, 63] [] [0, 1] [] ?_
     refine rO [0, 1, 2, 4, 3, 5, 6] ?_
     refine rZ 5 ?_
     refine qC [.agg (encW w rw).toArray, .int .i64 x.thread, .int .i64 (-1)] fun W_ hT_ hR_ => (k08_Say _ _ _ _ _ (wget hR_ 0 rfl)).mono ?_
     rintro e_ W1_ ⟨rx8_, rfl, hw8_, hf8_, hb_⟩
     refine ⟨_, [wRep (m08Say w x.thread (-1)) rx8_], rfl, hb_, (NewOk.cons hw8_ (hf8_.one (fun k_ => (fun h_ => ⟨_, mG 0 rfl, h_⟩))) NewOk.nil), ?_⟩
     refine rZ 5 ?_
     obtain ⟨m_, hq_, hm_⟩ := nm (m16Step w x)
     unfold m16Step at hm_
     simp only [bF h1, bF h2, bF h5, bT h7] at hm_
     refine qR [.agg (encW m_.1 rx8_).toArray, .agg (encCallR m_.2).toArray] (fun W1_ hT_ hR_ hF_ => ?_) (h := by rewrite [← hm_]; kernel_rfl)
     rw [hq_, ← hm_]
     exact ⟨_, rfl, (wget hR_ 0 rfl), (fun k_ => (fun h_ => hF_ _ (mG 0 rfl) k_ h_)), hT_.below⟩
    ·refine rZ 8 ?_
     refine qD k16_Step.T17 [0, 0, 1, 7] [] [0, 1] [] ?_
     refine rO [0, 1, 2, 3] ?_
     refine rZ 7 ?_
     obtain ⟨m_, hq_, hm_⟩ := nm (m16Step w x)
     unfold m16Step at hm_
     simp only [bF h1, bF h2, bF h5, bF h7] at hm_
     refine qR [.agg (encW m_.1 rw).toArray, .agg (encCallR m_.2).toArray] (fun W1_ hT_ hR_ hF_ => ?_) (h := by rewrite [← hm_]; kernel_rfl)
     rw [hq_, ← hm_]
     exact ⟨_, rfl, (wget hR_ 0 rfl), (fun k_ => (fun h_ => hF_ _ (mG 0 rfl) k_ h_)), hT_.below⟩
end Go.Proofs.Ytbhakljebcmocaa.PBoundKeeps
end
section
namespace Go.Proofs.Ytbhakljebcmocaa.PBoundKeeps
open Go.RowKit Go.Proofs.YtbhakljebcmocaaW.PrintWords Go.Proofs.YtbhakljebcmocaaW.PrintLast Go.Proofs.YtbhakljebcmocaaW.PrintMore
set_option linter.unusedVariables false
set_option maxHeartbeats 1000000
set_option maxRecDepth 100000
set_option linter.unusedSimpArgs false
def k18_judge.T1 : Bool × List (List Nat × List Nat) := (true, [([], []), ([0], [0]), ([], []), ([2], [2]), ([], []), ([4], [4]), ([3, 5], [3, 5]), ([1, 6, 6], [1, 6]), ([7], [7]), ([8], [8]), ([8], [8]), ([], []), ([11, 9, 7, 0, 1, 2, 3, 4, 5, 6, 7, 8, 9, 11], [9, 11]), ([10, 12, 0, 1, 2, 3, 4, 5, 6, 7, 8, 9, 10, 11, 12], [10])])
def k18_judge.T5 : Bool × List (List Nat × List Nat) := (true, [([], []), ([0], [0]), ([1], [1]), ([2], [2]), ([3], [3]), ([3], [3]), ([5, 3], [3, 5]), ([6, 3], [3, 6]), ([4, 7, 3], [3, 4, 7]), ([8, 3], [3, 8]), ([9, 3], [3, 9]), ([3], [3]), ([11, 3], [3, 11]), ([10, 12, 3], [3, 10, 12]), ([3, 13], [3, 13])])
def k18_judge.T8 : Bool × List (List Nat × List Nat) := (true, [([], []), ([], []), ([1], [1]), ([], []), ([], []), ([3, 4], [3, 4]), ([], []), ([6], [6]), ([], []), ([8], [8]), ([7, 9], [7, 9]), ([10], [10]), ([5, 11, 5], [5, 11]), ([0, 2, 0, 1, 2, 3, 4, 5, 6, 7, 8, 9, 10, 11, 12], [0, 2]), ([13, 12, 12, 0, 1, 2, 3, 4, 5, 6, 7, 8, 9, 10, 11, 12], [12, 13])])
def k18_judge.c1 (w : RW) (rw : RX) (x : ScR) (rx : SX) (s : Int) (x_ : Unit) : St := ⟨[some ⟨true, 37, (encW w rw).map .v⟩, some ⟨true, 85, (encSc x rx).map .v⟩, some ⟨true, 85, (encSc (ScR.mk ⟨0, 0, 0, 0⟩ 0 0 0 0 false 0 false 0) (SX.mk none 0 [] (PS.mk none 0 []))).map .v⟩, some ⟨true, 48, [.v (.int .i64 (callF w.b (carF w.b x.node)).f0), .v (.int .u64 (callF w.b (carF w.b x.node)).f1), .v (.int .u64 (callF w.b (carF w.b x.node)).f2), .v (.int .i64 (callF w.b (carF w.b x.node)).f3)]⟩], [.v (.agg (encW w rw).toArray), .v (.agg (encSc x rx).toArray), .v (.int .u64 s), .ad 0 0, .ad 1 0, .v (undef), .ad 2 0, .ad 3 0, .v (.int .i64 (callE w.b (carF w.b x.node))), .v (undef), .v (undef), .v (.tuple #[.agg #[.int .i64 (callF w.b (carF w.b x.node)).f0, .int .u64 (callF w.b (carF w.b x.node)).f1, .int .u64 (callF w.b (carF w.b x.node)).f2, .int .i64 (callF w.b (carF w.b x.node)).f3], .int .i64 (callE w.b (carF w.b x.node))]), .ad 0 7, .v (.agg (encB w.b rw.r).toArray), .ad 0 7, .v (.agg (encB w.b rw.r).toArray), .ad 1 6, .v (.int .i64 x.node), .v (.int .i64 (carF w.b x.node)), .v (.tuple #[.agg #[.int .i64 (callF w.b (carF w.b x.node)).f0, .int .u64 (callF w.b (carF w.b x.node)).f1, .int .u64 (callF w.b (carF w.b x.node)).f2, .int .i64 (callF w.b (carF w.b x.node)).f3], .int .i64 (callE w.b (carF w.b x.node))]), .v (.agg #[.int .i64 (callF w.b (carF w.b x.node)).f0, .int .u64 (callF w.b (carF w.b x.node)).f1, .int .u64 (callF w.b (carF w.b x.node)).f2, .int .i64 (callF w.b (carF w.b x.node)).f3]), .v (.int .i64 (callE w.b (carF w.b x.node))), .v (undef), .v (undef), .v (undef), .v (undef), .v (undef), .v (undef), .v (undef), .v (undef), .v (undef), .v (undef), .v (undef), .v (undef), .v (undef), .v (undef), .v (undef), .v (undef), .v (undef), .v (undef), .v (undef), .v (undef), .v (undef), .v (undef), .v (undef), .v (undef), .v (undef), .v (undef), .v (undef), .v (undef), .v (undef), .v (undef), .v (undef), .v (undef), .v (undef), .v (undef), .v (undef), .v (undef), .v (undef), .v (undef), .v (undef), .v (undef), .v (undef), .v (undef), .v (undef), .v (undef), .v (undef), .v (undef), .v (undef), .v (undef), .v (undef), .v (undef), .v (undef), .v (undef), .v (undef), .v (undef), .v (undef), .v (undef), .v (undef), .v (undef), .v (undef), .v (undef), .v (undef), .v (undef), .v (undef), .v (undef), .v (undef), .v (undef), .v (undef), .v (undef), .v (undef), .v (undef), .v (undef), .v (undef), .v (undef), .v (undef), .v (undef)]⟩
def k18_judge.r1 (w : RW) (rw : RX) (x : ScR) (rx : SX) (s : Int) (x_ : Unit) : List PRep := [wRep w rw, sRep x rx]
theorem k18_judge (w : RW) (rw : RX) (x : ScR) (rx : SX) (s : Int) (hB : mx rx.l ≤ 1000) (W : World) (hW : WAt W w rw) (hW2 : SAt W x rx) : Calls Try.prog 47 #[.agg (encW w rw).toArray, .agg (encSc x rx).toArray, .int .u64 s] W (fun e W' => ∃ r0 : SX, e = .returned (.agg (encSc x r0).toArray) ∧ SAt W' x r0 ∧ FreshIn [wRep w rw, sRep x rx] W (sRep x r0) ∧ r0.l.length = rx.l.length ∧ mx r0.l ≤ mx rx.l + 1 ∧ Below W.heap.size W W') := by
 refine rf_enter (args := [.agg (encW w rw).toArray, .agg (encSc x rx).toArray, .int .u64 s]) [wRep w rw, sRep x rx] Try.func47 rfl (two_mem hW hW2) ?_
 refine rX 7 ?_
 refine qK (k18_judge.c1 w rw x rx s) (k18_judge.r1 w rw x rx s) (fun _ => True) ?_ ?_
 ·refine qD k18_judge.T1 [0, 1, 0, 4, 0, 16, 60, 127, 255, 511, 511, 0, 3071, 8191] [12] [0, 1] [] ?_
  refine rO [0, 1, 2, 3, 4, 5] ?_
  refine rZ 6 ?_
  refine qF 6 11 ?_ ?_
  ·refine rO [] ?_
   refine qV [.agg (encB w.b rw.r).toArray, .int .i64 x.node] (fun W_ hT_ hR_ => c07_Carried w.b rw.r x.node _ (wget hR_ 0 rfl).b) ?_
   refine qF 7 11 ?_ ?_
   ·refine rO [8, 9, 10, 11, 12, 13] ?_
    refine qV [.agg (encB w.b rw.r).toArray, .int .i64 (carF w.b x.node)] (fun W_ hT_ hR_ => c07_Call w.b rw.r (carF w.b x.node) _ (wget hR_ 0 rfl).b) ?_
    refine rZ 9 ?_
    exact qJ (k18_judge.c1 w rw x rx s) (k18_judge.r1 w rw x rx s) (fun _ => True) () trivial (by simp [k18_judge.r1])
   ·refine rO [7, 8, 9, 10, 12, 13] ?_
    refine rZ 2 ?_
    refine qV [.agg (encB w.b rw.r).toArray, .int .i64 (carF w.b x.node)] (fun W_ hT_ hR_ => c07_Call w.b rw.r (carF w.b x.node) _ (wget hR_ 0 rfl).b) ?_
    refine rZ 7 ?_
    exact qJ (k18_judge.c1 w rw x rx s) (k18_judge.r1 w rw x rx s) (fun _ => True) () trivial (by simp [k18_judge.r1])
  ·refine rO [6, 7, 8, 9, 10, 12, 13] ?_
   refine rZ 2 ?_
   refine qV [.agg (encB w.b rw.r).toArray, .int .i64 x.node] (fun W_ hT_ hR_ => c07_Carried w.b rw.r x.node _ (wget hR_ 0 rfl).b) ?_
   refine rZ 1 ?_
   refine qV [.agg (encB w.b rw.r).toArray, .int .i64 (carF w.b x.node)] (fun W_ hT_ hR_ => c07_Call w.b rw.r (carF w.b x.node) _ (wget hR_ 0 rfl).b) ?_
   refine rZ 7 ?_
   exact qJ (k18_judge.c1 w rw x rx s) (k18_judge.r1 w rw x rx s) (fun _ => True) () trivial (by simp [k18_judge.r1])
 ·rintro ⟨⟩ -
  refine rZ 6 ?_
  refine qS 24 (s != 1) (fun h1 => ?_) (fun h1 => ?_)
  ·refine rZ 35 ?_
   refine qR [.agg (encSc x rx).toArray] (fun W1_ hT_ hR_ hF_ => ?_)
   exact ⟨rx, rfl, (sget hR_ 1 rfl), (fun k_ => (fun h_ => hF_ _ (mG 1 rfl) k_ h_)), (by first | rfl | exact List.length_set | omega), (by first | exact Nat.le_succ _ | exact mx_app _ _ _ _ _ | omega), hT_.below⟩
  ·refine rZ 8 ?_
   refine qS 32 (decide ((callF w.b (carF w.b x.node)).f1 < x.call.f1)) (fun h2 => ?_) (fun h2 => ?_)
   ·refine rZ 27 ?_
    refine qR [.agg (encSc x rx).toArray] (fun W1_ hT_ hR_ hF_ => ?_)
    exact ⟨rx, rfl, (sget hR_ 1 rfl), (fun k_ => (fun h_ => hF_ _ (mG 1 rfl) k_ h_)), (by first | rfl | exact List.length_set | omega), (by first | exact Nat.le_succ _ | exact mx_app _ _ _ _ _ | omega), hT_.below⟩
   ·refine rZ 8 ?_
    refine qS 40 (decide ((callF w.b (carF w.b x.node)).f1 > x.call.f2)) (fun h3 => ?_) (fun h3 => ?_)
    ·refine rZ 19 ?_
     refine qR [.agg (encSc x rx).toArray] (fun W1_ hT_ hR_ hF_ => ?_)
     exact ⟨rx, rfl, (sget hR_ 1 rfl), (fun k_ => (fun h_ => hF_ _ (mG 1 rfl) k_ h_)), (by first | rfl | exact List.length_set | omega), (by first | exact Nat.le_succ _ | exact mx_app _ _ _ _ _ | omega), hT_.below⟩
    ·refine rZ 5 ?_
     refine qS 45 (decide (x.bucket < 0)) (fun h4 => ?_) (fun h4 => ?_)
     ·refine rZ 14 ?_
      refine qR [.agg (encSc x rx).toArray] (fun W1_ hT_ hR_ hF_ => ?_)
      exact ⟨rx, rfl, (sget hR_ 1 rfl), (fun k_ => (fun h_ => hF_ _ (mG 1 rfl) k_ h_)), (by first | rfl | exact List.length_set | omega), (by first | exact Nat.le_succ _ | exact mx_app _ _ _ _ _ | omega), hT_.below⟩
     ·refine rZ 8 ?_
      refine qI (decide (x.bucket ≥ (rx.l.length : Int))) (fun h5 => ?_) (fun h5 => ?_)
      ·refine rZ 5 ?_
       refine qR [.agg (encSc x rx).toArray] (fun W1_ hT_ hR_ hF_ => ?_)
       exact ⟨rx, rfl, (sget hR_ 1 rfl), (fun k_ => (fun h_ => hF_ _ (mG 1 rfl) k_ h_)), (by first | rfl | exact List.length_set | omega), (by first | exact Nat.le_succ _ | exact mx_app _ _ _ _ _ | omega), hT_.below⟩
      ·refine rZ 7 ?_
       refine rK (p := ∃ ad, rx.A = some ad) (fun W_ hR_ => row_some (sget hR_ 1 rfl).m (by rw [flat_len psE_len]; exact Nat.mul_pos (by have b0_ := oF h2; have b1_ := oF h3; have b2_ := oF h4; have b3_ := oF h5; have p0_ := hB; omega) (by decide))) ?_
       rintro ⟨ad6_, had6_⟩
       refine qX (t := 83) (e := 50) (s := 1) (b := 24) (A := rx.A) (n := rx.l.length) (c := rx.C) (k := .i64) (i := x.bucket) ad6_ had6_ (by have b0_ := oF h2; have b1_ := oF h3; have b2_ := oF h4; have b3_ := oF h5; have p0_ := hB; omega) (by have b0_ := oF h2; have b1_ := oF h3; have b2_ := oF h4; have b3_ := oF h5; have p0_ := hB; omega) ?_
       refine qL (t := 50) (p := .pointer (some (ad6_.add (Int.toNat x.bucket * 1)))) (v := .slice (rx.l.getD x.bucket.toNat (PS.mk none 0 [])).a (rx.l.getD x.bucket.toNat (PS.mk none 0 [])).ps.length (rx.l.getD x.bucket.toNat (PS.mk none 0 [])).c) [wRep w rw, sRep x rx] (fun w_ hR_ => by exact row1' te_ok (sz := 1) (d := (PS.mk none 0 [])) rfl (by rw [← had6_]; exact (sget hR_ 1 rfl).m) psE_len (o := 0) (by decide) (by have b0_ := oF h2; have b1_ := oF h3; have b2_ := oF h4; have b3_ := oF h5; have p0_ := hB; omega) (.slice (rx.l.getD x.bucket.toNat (PS.mk none 0 [])).a (rx.l.getD x.bucket.toNat (PS.mk none 0 [])).ps.length (rx.l.getD x.bucket.toNat (PS.mk none 0 [])).c) (by kernel_rfl) (Nat.add_zero _).symm) ?_
       refine rZ 4 ?_
       refine qD k18_judge.T5 [0, 1, 3, 7, 15, 15, 47, 111, 255, 511, 1023, 15, 2063, 8191, 16383] [] [3] [] ?_
       refine rO [0, 1, 2, 3] ?_
       refine rZ 4 ?_
       refine qS 63 (decide (((rx.l.getD x.bucket.toNat (PS.mk none 0 [])).ps.length : Int) > 0)) (fun h7 => ?_) (fun h7 => ?_)
       ·refine rO [4, 5, 6, 7, 8, 9, 10, 11, 12, 13, 14] ?_
        refine rZ 4 ?_
        refine rK (p := ∃ ad, (rx.l.getD x.bucket.toNat (PS.mk none 0 [])).a = some ad) (fun W_ hR_ => row_some ((sget hR_ 1 rfl).dg x.bucket.toNat).m (by rw [flat_len prE_len]; exact Nat.mul_pos (by have b0_ := oF h2; have b1_ := oF h3; have b2_ := oF h4; have b3_ := oF h5; have b4_ := oT h7; have p0_ := hB; have r5_ := mx_get rx.l x.bucket.toNat; have v_ : (IntKind.i64.wrap (((rx.l.getD x.bucket.toNat (PS.mk none 0 [])).ps.length : Int) - 1)) = ((rx.l.getD x.bucket.toNat (PS.mk none 0 [])).ps.length : Int) - 1 := w64 (by omega) (by omega); omega) (by decide))) ?_
        rintro ⟨ad8_, had8_⟩
        refine qX (t := 50) (e := 129) (s := 2) (b := 16) (A := (rx.l.getD x.bucket.toNat (PS.mk none 0 [])).a) (n := (rx.l.getD x.bucket.toNat (PS.mk none 0 [])).ps.length) (c := (rx.l.getD x.bucket.toNat (PS.mk none 0 [])).c) (k := .i64) (i := (IntKind.i64.wrap (((rx.l.getD x.bucket.toNat (PS.mk none 0 [])).ps.length : Int) - 1))) ad8_ had8_ (by have b0_ := oF h2; have b1_ := oF h3; have b2_ := oF h4; have b3_ := oF h5; have b4_ := oT h7; have p0_ := hB; have r5_ := mx_get rx.l x.bucket.toNat; have v_ : (IntKind.i64.wrap (((rx.l.getD x.bucket.toNat (PS.mk none 0 [])).ps.length : Int) - 1)) = ((rx.l.getD x.bucket.toNat (PS.mk none 0 [])).ps.length : Int) - 1 := w64 (by omega) (by omega); omega) (by have b0_ := oF h2; have b1_ := oF h3; have b2_ := oF h4; have b3_ := oF h5; have b4_ := oT h7; have p0_ := hB; have r5_ := mx_get rx.l x.bucket.toNat; have v_ : (IntKind.i64.wrap (((rx.l.getD x.bucket.toNat (PS.mk none 0 [])).ps.length : Int) - 1)) = ((rx.l.getD x.bucket.toNat (PS.mk none 0 [])).ps.length : Int) - 1 := w64 (by omega) (by omega); omega) ?_
        refine rZ 1 ?_
        refine qL (t := 46) (p := .pointer (some ((ad8_.add (Int.toNat (IntKind.i64.wrap (((rx.l.getD x.bucket.toNat (PS.mk none 0 [])).ps.length : Int) - 1)) * 2)).add 0))) (v := .int .u64 ((rx.l.getD x.bucket.toNat (PS.mk none 0 [])).ps.getD (Int.toNat (IntKind.i64.wrap (((rx.l.getD x.bucket.toNat (PS.mk none 0 [])).ps.length : Int) - 1))) (⟨0, 0⟩ : S129)).f0) [wRep w rw, sRep x rx] (fun w_ hR_ => by rw [Addr.add_add]; exact row1' te_ok (sz := 2) (d := (⟨0, 0⟩ : S129)) rfl (by rw [← had8_]; exact ((sget hR_ 1 rfl).dg x.bucket.toNat).m) prE_len (o := 0) (by decide) (by have b0_ := oF h2; have b1_ := oF h3; have b2_ := oF h4; have b3_ := oF h5; have b4_ := oT h7; have p0_ := hB; have r5_ := mx_get rx.l x.bucket.toNat; have v_ : (IntKind.i64.wrap (((rx.l.getD x.bucket.toNat (PS.mk none 0 [])).ps.length : Int) - 1)) = ((rx.l.getD x.bucket.toNat (PS.mk none 0 [])).ps.length : Int) - 1 := w64 (by omega) (by omega); omega) (.int .u64 ((rx.l.getD x.bucket.toNat (PS.mk none 0 [])).ps.getD (Int.toNat (IntKind.i64.wrap (((rx.l.getD x.bucket.toNat (PS.mk none 0 [])).ps.length : Int) - 1))) (⟨0, 0⟩ : S129)).f0) (by kernel_rfl) rfl) ?_
        refine rZ 5 ?_
        refine qI (((rx.l.getD x.bucket.toNat (PS.mk none 0 [])).ps.getD (Int.toNat (IntKind.i64.wrap (((rx.l.getD x.bucket.toNat (PS.mk none 0 [])).ps.length : Int) - 1))) (⟨0, 0⟩ : S129)).f0 == (callF w.b (carF w.b x.node)).f1) (fun h9 => ?_) (fun h9 => ?_)
        ·refine rZ 5 ?_
         refine qR [.agg (encSc x rx).toArray] (fun W1_ hT_ hR_ hF_ => ?_)
         exact ⟨rx, rfl, (sget hR_ 1 rfl), (fun k_ => (fun h_ => hF_ _ (mG 1 rfl) k_ h_)), (by first | rfl | exact List.length_set | omega), (by first | exact Nat.le_succ _ | exact mx_app _ _ _ _ _ | omega), hT_.below⟩
        ·refine rZ 6 ?_
         refine rK (p := rx.l.length ≤ 1000000) (fun W_ hR_ => (sget hR_ 1 rfl).s) (fun hs10_ => ?_)
         refine qA (t := 83) (e := 50) (size := 1) (by_ := 24) (i := 4) (n := 0) (c := 0) (x := .v (.slice rx.A rx.l.length rx.C)) (enc := psE) (sp := []) true [] rx.l rx.l psE_len psE_one rfl (by rfl) (Nat.le_refl _) (Nat.zero_le _) (by simp only [List.length_nil]; omega) rfl (fun γ_ W_ hk_ hB_ => by have hR_ : RepAt _ W_ := hB_.rep; exact news_row (sget hR_ 1 rfl).m (row_none (sget hR_ 1 rfl).m psE_len (by decide))) (fun c10_ sp10_ hall10_ hle10_ hmx10_ => ?_)
         refine rZ 3 ?_
         refine qD k18_judge.T8 [0, 0, 2, 0, 0, 24, 0, 64, 0, 256, 960, 1984, 4088, 8191, 16383] [] [1, 3] [] ?_
         refine rO [0, 1, 2, 4, 6, 7, 8, 9, 10] ?_
         refine rZ 9 ?_
         refine qF 3 11 ?_ ?_
         ·refine rO [] ?_
          refine rZ 1 ?_
          refine qF 5 11 ?_ ?_
          ·refine rO [11, 12, 13, 14] ?_
           refine rK (p := (rx.l.getD x.bucket.toNat (PS.mk none 0 [])).ps.length ≤ 1000000) (fun W_ hR_ => (Nat.le_trans (mx_get rx.l x.bucket.toNat) (by omega))) (fun hs11_ => ?_)
           refine qA (t := 50) (e := 129) (size := 2) (by_ := 16) (i := 6) (n := 0) (c := 0) (x := .v (.slice (rx.l.getD x.bucket.toNat (PS.mk none 0 [])).a (rx.l.getD x.bucket.toNat (PS.mk none 0 [])).ps.length (rx.l.getD x.bucket.toNat (PS.mk none 0 [])).c)) (enc := prE) (sp := []) true [] (rx.l.getD x.bucket.toNat (PS.mk none 0 [])).ps (rx.l.getD x.bucket.toNat (PS.mk none 0 [])).ps prE_len prE_one rfl (by rfl) (Nat.le_refl _) (Nat.zero_le _) (by simp only [List.length_nil]; omega) rfl (fun γ_ W_ hk_ hB_ => by have hR_ : RepAt _ W_ := hB_.rep; exact news_row ((sget hR_ 1 rfl).dg x.bucket.toNat).m (row_none ((sget hR_ 1 rfl).dg x.bucket.toNat).m prE_len (by decide))) (fun c11_ sp11_ hall11_ hle11_ hmx11_ => ?_)
           refine rZ 3 ?_
           refine qA (t := 50) (e := 129) (size := 2) (by_ := 16) (i := 7) (n := (rx.l.getD x.bucket.toNat (PS.mk none 0 [])).ps.length) (c := c11_) (x := .sl 8 1 1) (enc := prE) (sp := sp11_) true (rx.l.getD x.bucket.toNat (PS.mk none 0 [])).ps [(⟨(callF w.b (carF w.b x.node)).f1, (callF w.b (carF w.b x.node)).f2⟩ : S129)] ((rx.l.getD x.bucket.toNat (PS.mk none 0 [])).ps ++ [(⟨(callF w.b (carF w.b x.node)).f1, (callF w.b (carF w.b x.node)).f2⟩ : S129)]) prE_len prE_one rfl hall11_ hle11_ hmx11_ (by simp only [List.length_cons, List.length_nil]; have b0_ := oF h2; have b1_ := oF h3; have b2_ := oF h4; have b3_ := oF h5; have b4_ := oT h7; have b5_ := beq_ne h9; have p0_ := hB; have r6_ := mx_get rx.l x.bucket.toNat; omega) rfl (fun γ_ W_ hk_ hB_ => news_own hB_ (b := ⟨true, 129, [.v (.int .u64 (callF w.b (carF w.b x.node)).f1), .v (.int .u64 (callF w.b (carF w.b x.node)).f2)]⟩) (by kernel_rfl) rfl) (fun c12_ sp12_ hall12_ hle12_ hmx12_ => ?_)
           refine qY (t := 83) (e := 50) (s := 1) (b := 24) (j := 5) (n := rx.l.length) (c := c10_) (k := .i64) (i := x.bucket) (by have b0_ := oF h2; have b1_ := oF h3; have b2_ := oF h4; have b3_ := oF h5; have b4_ := oT h7; have b5_ := beq_ne h9; have p0_ := hB; omega) (by have b0_ := oF h2; have b1_ := oF h3; have b2_ := oF h4; have b3_ := oF h5; have b4_ := oT h7; have b5_ := beq_ne h9; have p0_ := hB; omega) ?_
           refine qG 9 [] 129 (List.flatMap prE ((rx.l.getD x.bucket.toNat (PS.mk none 0 [])).ps ++ [(⟨(callF w.b (carF w.b x.node)).f1, (callF w.b (carF w.b x.node)).f2⟩ : S129)]) ++ sp12_) (fun g13_ => ?_)
           refine rZ 1 ?_
           refine qW (t := 50) (k := 1) (j := 5) (of := (Int.toNat x.bucket * 1)) (e := 50) (ag := false) (x := .v (.slice (some ⟨g13_, 0, none⟩) ((rx.l.getD x.bucket.toNat (PS.mk none 0 [])).ps ++ [(⟨(callF w.b (carF w.b x.node)).f1, (callF w.b (carF w.b x.node)).f2⟩ : S129)]).length c12_)) (cs := (List.flatMap psE rx.l ++ sp10_).map .v) true ((List.flatMap psE (rx.l.set x.bucket.toNat (PS.mk (some ⟨g13_, 0, none⟩) c12_ ((rx.l.getD x.bucket.toNat (PS.mk none 0 [])).ps ++ [(⟨(callF w.b (carF w.b x.node)).f1, (callF w.b (carF w.b x.node)).f2⟩ : S129)]))) ++ sp10_).map .v) (ownIn' psE_len (o := 0) (k := 1) (by decide) (by (try simp only [List.length_set, List.length_append, List.length_cons, List.length_nil]); have b0_ := oF h2; have b1_ := oF h3; have b2_ := oF h4; have b3_ := oF h5; have b4_ := oT h7; have b5_ := beq_ne h9; have p0_ := hB; omega) (Nat.add_zero _).symm) (ownPut' psE_len (o := 0) (k := 1) (d := (PS.mk none 0 [])) ([.slice (some ⟨g13_, 0, none⟩) ((rx.l.getD x.bucket.toNat (PS.mk none 0 [])).ps ++ [(⟨(callF w.b (carF w.b x.node)).f1, (callF w.b (carF w.b x.node)).f2⟩ : S129)]).length c12_]) (by kernel_rfl) (by decide) (by (try simp only [List.length_set, List.length_append, List.length_cons, List.length_nil]); have b0_ := oF h2; have b1_ := oF h3; have b2_ := oF h4; have b3_ := oF h5; have b4_ := oT h7; have b5_ := beq_ne h9; have p0_ := hB; omega) (PS.mk (some ⟨g13_, 0, none⟩) c12_ ((rx.l.getD x.bucket.toNat (PS.mk none 0 [])).ps ++ [(⟨(callF w.b (carF w.b x.node)).f1, (callF w.b (carF w.b x.node)).f2⟩ : S129)])) (by kernel_rfl) rfl (Nat.add_zero _).symm (by kernel_rfl)) ?_
           refine qP 79 (.sl 5 (rx.l.set x.bucket.toNat (PS.mk (some ⟨g13_, 0, none⟩) c12_ ((rx.l.getD x.bucket.toNat (PS.mk none 0 [])).ps ++ [(⟨(callF w.b (carF w.b x.node)).f1, (callF w.b (carF w.b x.node)).f2⟩ : S129)]))).length c10_) (by rw [List.length_set]) ?_
           refine qP 10 (.sl 5 (rx.l.set x.bucket.toNat (PS.mk (some ⟨g13_, 0, none⟩) c12_ ((rx.l.getD x.bucket.toNat (PS.mk none 0 [])).ps ++ [(⟨(callF w.b (carF w.b x.node)).f1, (callF w.b (carF w.b x.node)).f2⟩ : S129)]))).length c10_) (by rw [List.length_set]) ?_
           refine rZ 9 ?_
           refine qG 5 [1] 50 (List.flatMap psE (rx.l.set x.bucket.toNat (PS.mk (some ⟨g13_, 0, none⟩) c12_ ((rx.l.getD x.bucket.toNat (PS.mk none 0 [])).ps ++ [(⟨(callF w.b (carF w.b x.node)).f1, (callF w.b (carF w.b x.node)).f2⟩ : S129)]))) ++ sp10_) (fun g14_ => ?_)
           refine rZ 3 ?_
           refine qR [.agg (encSc (ScR.mk x.call x.phase x.bucket x.node x.next x.done x.err x.rdone x.rval) (SX.mk (some ⟨g14_, 0, none⟩) c10_ (rx.l.set x.bucket.toNat (PS.mk (some ⟨g13_, 0, none⟩) c12_ ((rx.l.getD x.bucket.toNat (PS.mk none 0 [])).ps ++ [(⟨(callF w.b (carF w.b x.node)).f1, (callF w.b (carF w.b x.node)).f2⟩ : S129)]))) (PS.mk rx.pr.a rx.pr.c rx.pr.ps))).toArray] (fun W1_ hT_ hR_ hF_ => ?_)
           exact ⟨(SX.mk (some ⟨g14_, 0, none⟩) c10_ (rx.l.set x.bucket.toNat (PS.mk (some ⟨g13_, 0, none⟩) c12_ ((rx.l.getD x.bucket.toNat (PS.mk none 0 [])).ps ++ [(⟨(callF w.b (carF w.b x.node)).f1, (callF w.b (carF w.b x.node)).f2⟩ : S129)]))) (PS.mk rx.pr.a rx.pr.c rx.pr.ps)), rfl, ⟨(row_blk (hR_.get 0 rfl)), (by rw [List.length_set]; exact hle10_), (by rw [List.length_set]; exact hs10_), (deep_set (sget hR_ 3 rfl).d ⟨(row_blk (hR_.get 1 rfl)), hle12_, (le_mx (by (try simp only [List.length_append, List.length_cons, List.length_nil]); have b0_ := oF h2; have b1_ := oF h3; have b2_ := oF h4; have b3_ := oF h5; have b4_ := oT h7; have b5_ := beq_ne h9; have p0_ := hB; have r6_ := mx_get rx.l x.bucket.toNat; omega))⟩), (sget hR_ 3 rfl).p⟩, (fun k_ => (fun h_ => h_.elim (fun h_ => hF_ _ (mG 0 rfl) k_ (rowBl_blk h_)) (fun h_ => h_.elim (fun h_ => deepBl_set h_ (fun h_ => hF_ _ (mG 3 rfl) k_ (.inr (.inl h_))) (fun h_ => hF_ _ (mG 1 rfl) k_ (rowBl_blk h_))) (fun h_ => hF_ _ (mG 3 rfl) k_ (.inr (.inr h_)))))), (by first | rfl | exact List.length_set | omega), (by first | exact Nat.le_succ _ | exact mx_app _ _ _ _ _ | omega), hT_.below⟩
          ·refine rO [5, 12, 13, 14] ?_
           refine rZ 2 ?_
           refine rK (p := (rx.l.getD x.bucket.toNat (PS.mk none 0 [])).ps.length ≤ 1000000) (fun W_ hR_ => (Nat.le_trans (mx_get rx.l x.bucket.toNat) (by omega))) (fun hs15_ => ?_)
           refine qA (t := 50) (e := 129) (size := 2) (by_ := 16) (i := 6) (n := 0) (c := 0) (x := .v (.slice (rx.l.getD x.bucket.toNat (PS.mk none 0 [])).a (rx.l.getD x.bucket.toNat (PS.mk none 0 [])).ps.length (rx.l.getD x.bucket.toNat (PS.mk none 0 [])).c)) (enc := prE) (sp := []) true [] (rx.l.getD x.bucket.toNat (PS.mk none 0 [])).ps (rx.l.getD x.bucket.toNat (PS.mk none 0 [])).ps prE_len prE_one rfl (by rfl) (Nat.le_refl _) (Nat.zero_le _) (by simp only [List.length_nil]; omega) rfl (fun γ_ W_ hk_ hB_ => by have hR_ : RepAt _ W_ := hB_.rep; exact news_row ((sget hR_ 1 rfl).dg x.bucket.toNat).m (row_none ((sget hR_ 1 rfl).dg x.bucket.toNat).m prE_len (by decide))) (fun c15_ sp15_ hall15_ hle15_ hmx15_ => ?_)
           refine rZ 1 ?_
           refine qA (t := 50) (e := 129) (size := 2) (by_ := 16) (i := 8) (n := (rx.l.getD x.bucket.toNat (PS.mk none 0 [])).ps.length) (c := c15_) (x := .sl 7 1 1) (enc := prE) (sp := sp15_) true (rx.l.getD x.bucket.toNat (PS.mk none 0 [])).ps [(⟨(callF w.b (carF w.b x.node)).f1, (callF w.b (carF w.b x.node)).f2⟩ : S129)] ((rx.l.getD x.bucket.toNat (PS.mk none 0 [])).ps ++ [(⟨(callF w.b (carF w.b x.node)).f1, (callF w.b (carF w.b x.node)).f2⟩ : S129)]) prE_len prE_one rfl hall15_ hle15_ hmx15_ (by simp only [List.length_cons, List.length_nil]; have b0_ := oF h2; have b1_ := oF h3; have b2_ := oF h4; have b3_ := oF h5; have b4_ := oT h7; have b5_ := beq_ne h9; have p0_ := hB; have r6_ := mx_get rx.l x.bucket.toNat; omega) rfl (fun γ_ W_ hk_ hB_ => news_own hB_ (b := ⟨true, 129, [.v (.int .u64 (callF w.b (carF w.b x.node)).f1), .v (.int .u64 (callF w.b (carF w.b x.node)).f2)]⟩) (by kernel_rfl) rfl) (fun c16_ sp16_ hall16_ hle16_ hmx16_ => ?_)
           refine qY (t := 83) (e := 50) (s := 1) (b := 24) (j := 5) (n := rx.l.length) (c := c10_) (k := .i64) (i := x.bucket) (by have b0_ := oF h2; have b1_ := oF h3; have b2_ := oF h4; have b3_ := oF h5; have b4_ := oT h7; have b5_ := beq_ne h9; have p0_ := hB; omega) (by have b0_ := oF h2; have b1_ := oF h3; have b2_ := oF h4; have b3_ := oF h5; have b4_ := oT h7; have b5_ := beq_ne h9; have p0_ := hB; omega) ?_
           refine qG 9 [] 129 (List.flatMap prE ((rx.l.getD x.bucket.toNat (PS.mk none 0 [])).ps ++ [(⟨(callF w.b (carF w.b x.node)).f1, (callF w.b (carF w.b x.node)).f2⟩ : S129)]) ++ sp16_) (fun g17_ => ?_)
           refine rZ 1 ?_
           refine qW (t := 50) (k := 1) (j := 5) (of := (Int.toNat x.bucket * 1)) (e := 50) (ag := false) (x := .v (.slice (some ⟨g17_, 0, none⟩) ((rx.l.getD x.bucket.toNat (PS.mk none 0 [])).ps ++ [(⟨(callF w.b (carF w.b x.node)).f1, (callF w.b (carF w.b x.node)).f2⟩ : S129)]).length c16_)) (cs := (List.flatMap psE rx.l ++ sp10_).map .v) true ((List.flatMap psE (rx.l.set x.bucket.toNat (PS.mk (some ⟨g17_, 0, none⟩) c16_ ((rx.l.getD x.bucket.toNat (PS.mk none 0 [])).ps ++ [(⟨(callF w.b (carF w.b x.node)).f1, (callF w.b (carF w.b x.node)).f2⟩ : S129)]))) ++ sp10_).map .v) (ownIn' psE_len (o := 0) (k := 1) (by decide) (by (try simp only [List.length_set, List.length_append, List.length_cons, List.length_nil]); have b0_ := oF h2; have b1_ := oF h3; have b2_ := oF h4; have b3_ := oF h5; have b4_ := oT h7; have b5_ := beq_ne h9; have p0_ := hB; omega) (Nat.add_zero _).symm) (ownPut' psE_len (o := 0) (k := 1) (d := (PS.mk none 0 [])) ([.slice (some ⟨g17_, 0, none⟩) ((rx.l.getD x.bucket.toNat (PS.mk none 0 [])).ps ++ [(⟨(callF w.b (carF w.b x.node)).f1, (callF w.b (carF w.b x.node)).f2⟩ : S129)]).length c16_]) (by kernel_rfl) (by decide) (by (try simp only [List.length_set, List.length_append, List.length_cons, List.length_nil]); have b0_ := oF h2; have b1_ := oF h3; have b2_ := oF h4; have b3_ := oF h5; have b4_ := oT h7; have b5_ := beq_ne h9; have p0_ := hB; omega) (PS.mk (some ⟨g17_, 0, none⟩) c16_ ((rx.l.getD x.bucket.toNat (PS.mk none 0 [])).ps ++ [(⟨(callF w.b (carF w.b x.node)).f1, (callF w.b (carF w.b x.node)).f2⟩ : S129)])) (by kernel_rfl) rfl (Nat.add_zero _).symm (by kernel_rfl)) ?_
           refine qP 79 (.sl 5 (rx.l.set x.bucket.toNat (PS.mk (some ⟨g17_, 0, none⟩) c16_ ((rx.l.getD x.bucket.toNat (PS.mk none 0 [])).ps ++ [(⟨(callF w.b (carF w.b x.node)).f1, (callF w.b (carF w.b x.node)).f2⟩ : S129)]))).length c10_) (by rw [List.length_set]) ?_
           refine qP 10 (.sl 5 (rx.l.set x.bucket.toNat (PS.mk (some ⟨g17_, 0, none⟩) c16_ ((rx.l.getD x.bucket.toNat (PS.mk none 0 [])).ps ++ [(⟨(callF w.b (carF w.b x.node)).f1, (callF w.b (carF w.b x.node)).f2⟩ : S129)]))).length c10_) (by rw [List.length_set]) ?_
           refine rZ 9 ?_
           refine qG 5 [1] 50 (List.flatMap psE (rx.l.set x.bucket.toNat (PS.mk (some ⟨g17_, 0, none⟩) c16_ ((rx.l.getD x.bucket.toNat (PS.mk none 0 [])).ps ++ [(⟨(callF w.b (carF w.b x.node)).f1, (callF w.b (carF w.b x.node)).f2⟩ : S129)]))) ++ sp10_) (fun g18_ => ?_)
           refine rZ 3 ?_
           refine qR [.agg (encSc (ScR.mk x.call x.phase x.bucket x.node x.next x.done x.err x.rdone x.rval) (SX.mk (some ⟨g18_, 0, none⟩) c10_ (rx.l.set x.bucket.toNat (PS.mk (some ⟨g17_, 0, none⟩) c16_ ((rx.l.getD x.bucket.toNat (PS.mk none 0 [])).ps ++ [(⟨(callF w.b (carF w.b x.node)).f1, (callF w.b (carF w.b x.node)).f2⟩ : S129)]))) (PS.mk rx.pr.a rx.pr.c rx.pr.ps))).toArray] (fun W1_ hT_ hR_ hF_ => ?_)
           exact ⟨(SX.mk (some ⟨g18_, 0, none⟩) c10_ (rx.l.set x.bucket.toNat (PS.mk (some ⟨g17_, 0, none⟩) c16_ ((rx.l.getD x.bucket.toNat (PS.mk none 0 [])).ps ++ [(⟨(callF w.b (carF w.b x.node)).f1, (callF w.b (carF w.b x.node)).f2⟩ : S129)]))) (PS.mk rx.pr.a rx.pr.c rx.pr.ps)), rfl, ⟨(row_blk (hR_.get 0 rfl)), (by rw [List.length_set]; exact hle10_), (by rw [List.length_set]; exact hs10_), (deep_set (sget hR_ 3 rfl).d ⟨(row_blk (hR_.get 1 rfl)), hle16_, (le_mx (by (try simp only [List.length_append, List.length_cons, List.length_nil]); have b0_ := oF h2; have b1_ := oF h3; have b2_ := oF h4; have b3_ := oF h5; have b4_ := oT h7; have b5_ := beq_ne h9; have p0_ := hB; have r6_ := mx_get rx.l x.bucket.toNat; omega))⟩), (sget hR_ 3 rfl).p⟩, (fun k_ => (fun h_ => h_.elim (fun h_ => hF_ _ (mG 0 rfl) k_ (rowBl_blk h_)) (fun h_ => h_.elim (fun h_ => deepBl_set h_ (fun h_ => hF_ _ (mG 3 rfl) k_ (.inr (.inl h_))) (fun h_ => hF_ _ (mG 1 rfl) k_ (rowBl_blk h_))) (fun h_ => hF_ _ (mG 3 rfl) k_ (.inr (.inr h_)))))), (by first | rfl | exact List.length_set | omega), (by first | exact Nat.le_succ _ | exact mx_app _ _ _ _ _ | omega), hT_.below⟩
         ·refine rO [3, 5, 12, 13, 14] ?_
          refine rZ 4 ?_
          refine rK (p := (rx.l.getD x.bucket.toNat (PS.mk none 0 [])).ps.length ≤ 1000000) (fun W_ hR_ => (Nat.le_trans (mx_get rx.l x.bucket.toNat) (by omega))) (fun hs19_ => ?_)
          refine qA (t := 50) (e := 129) (size := 2) (by_ := 16) (i := 7) (n := 0) (c := 0) (x := .v (.slice (rx.l.getD x.bucket.toNat (PS.mk none 0 [])).a (rx.l.getD x.bucket.toNat (PS.mk none 0 [])).ps.length (rx.l.getD x.bucket.toNat (PS.mk none 0 [])).c)) (enc := prE) (sp := []) true [] (rx.l.getD x.bucket.toNat (PS.mk none 0 [])).ps (rx.l.getD x.bucket.toNat (PS.mk none 0 [])).ps prE_len prE_one rfl (by rfl) (Nat.le_refl _) (Nat.zero_le _) (by simp only [List.length_nil]; omega) rfl (fun γ_ W_ hk_ hB_ => by have hR_ : RepAt _ W_ := hB_.rep; exact news_row ((sget hR_ 1 rfl).dg x.bucket.toNat).m (row_none ((sget hR_ 1 rfl).dg x.bucket.toNat).m prE_len (by decide))) (fun c19_ sp19_ hall19_ hle19_ hmx19_ => ?_)
          refine rZ 1 ?_
          refine qA (t := 50) (e := 129) (size := 2) (by_ := 16) (i := 8) (n := (rx.l.getD x.bucket.toNat (PS.mk none 0 [])).ps.length) (c := c19_) (x := .sl 6 1 1) (enc := prE) (sp := sp19_) true (rx.l.getD x.bucket.toNat (PS.mk none 0 [])).ps [(⟨(callF w.b (carF w.b x.node)).f1, (callF w.b (carF w.b x.node)).f2⟩ : S129)] ((rx.l.getD x.bucket.toNat (PS.mk none 0 [])).ps ++ [(⟨(callF w.b (carF w.b x.node)).f1, (callF w.b (carF w.b x.node)).f2⟩ : S129)]) prE_len prE_one rfl hall19_ hle19_ hmx19_ (by simp only [List.length_cons, List.length_nil]; have b0_ := oF h2; have b1_ := oF h3; have b2_ := oF h4; have b3_ := oF h5; have b4_ := oT h7; have b5_ := beq_ne h9; have p0_ := hB; have r6_ := mx_get rx.l x.bucket.toNat; omega) rfl (fun γ_ W_ hk_ hB_ => news_own hB_ (b := ⟨true, 129, [.v (.int .u64 (callF w.b (carF w.b x.node)).f1), .v (.int .u64 (callF w.b (carF w.b x.node)).f2)]⟩) (by kernel_rfl) rfl) (fun c20_ sp20_ hall20_ hle20_ hmx20_ => ?_)
          refine qY (t := 83) (e := 50) (s := 1) (b := 24) (j := 5) (n := rx.l.length) (c := c10_) (k := .i64) (i := x.bucket) (by have b0_ := oF h2; have b1_ := oF h3; have b2_ := oF h4; have b3_ := oF h5; have b4_ := oT h7; have b5_ := beq_ne h9; have p0_ := hB; omega) (by have b0_ := oF h2; have b1_ := oF h3; have b2_ := oF h4; have b3_ := oF h5; have b4_ := oT h7; have b5_ := beq_ne h9; have p0_ := hB; omega) ?_
          refine qG 9 [] 129 (List.flatMap prE ((rx.l.getD x.bucket.toNat (PS.mk none 0 [])).ps ++ [(⟨(callF w.b (carF w.b x.node)).f1, (callF w.b (carF w.b x.node)).f2⟩ : S129)]) ++ sp20_) (fun g21_ => ?_)
          refine rZ 1 ?_
          refine qW (t := 50) (k := 1) (j := 5) (of := (Int.toNat x.bucket * 1)) (e := 50) (ag := false) (x := .v (.slice (some ⟨g21_, 0, none⟩) ((rx.l.getD x.bucket.toNat (PS.mk none 0 [])).ps ++ [(⟨(callF w.b (carF w.b x.node)).f1, (callF w.b (carF w.b x.node)).f2⟩ : S129)]).length c20_)) (cs := (List.flatMap psE rx.l ++ sp10_).map .v) true ((List.flatMap psE (rx.l.set x.bucket.toNat (PS.mk (some ⟨g21_, 0, none⟩) c20_ ((rx.l.getD x.bucket.toNat (PS.mk none 0 [])).ps ++ [(⟨(callF w.b (carF w.b x.node)).f1, (callF w.b (carF w.b x.node)).f2⟩ : S129)]))) ++ sp10_).map .v) (ownIn' psE_len (o := 0) (k := 1) (by decide) (by (try simp only [List.length_set, List.length_append, List.length_cons, List.length_nil]); have b0_ := oF h2; have b1_ := oF h3; have b2_ := oF h4; have b3_ := oF h5; have b4_ := oT h7; have b5_ := beq_ne h9; have p0_ := hB; omega) (Nat.add_zero _).symm) (ownPut' psE_len (o := 0) (k := 1) (d := (PS.mk none 0 [])) ([.slice (some ⟨g21_, 0, none⟩) ((rx.l.getD x.bucket.toNat (PS.mk none 0 [])).ps ++ [(⟨(callF w.b (carF w.b x.node)).f1, (callF w.b (carF w.b x.node)).f2⟩ : S129)]).length c20_]) (by kernel_rfl) (by decide) (by (try simp only [List.length_set, List.length_append, List.length_cons, List.length_nil]); have b0_ := oF h2; have b1_ := oF h3; have b2_ := oF h4; have b3_ := oF h5; have b4_ := oT h7; have b5_ := beq_ne h9; have p0_ := hB; omega) (PS.mk (some ⟨g21_, 0, none⟩) c20_ ((rx.l.getD x.bucket.toNat (PS.mk none 0 [])).ps ++ [(⟨(callF w.b (carF w.b x.node)).f1, (callF w.b (carF w.b x.node)).f2⟩ : S129)])) (by kernel_rfl) rfl (Nat.add_zero _).symm (by kernel_rfl)) ?_
          refine qP 79 (.sl 5 (rx.l.set x.bucket.toNat (PS.mk (some ⟨g21_, 0, none⟩) c20_ ((rx.l.getD x.bucket.toNat (PS.mk none 0 [])).ps ++ [(⟨(callF w.b (carF w.b x.node)).f1, (callF w.b (carF w.b x.node)).f2⟩ : S129)]))).length c10_) (by rw [List.length_set]) ?_
          refine qP 10 (.sl 5 (rx.l.set x.bucket.toNat (PS.mk (some ⟨g21_, 0, none⟩) c20_ ((rx.l.getD x.bucket.toNat (PS.mk none 0 [])).ps ++ [(⟨(callF w.b (carF w.b x.node)).f1, (callF w.b (carF w.b x.node)).f2⟩ : S129)]))).length c10_) (by rw [List.length_set]) ?_
          refine rZ 9 ?_
          refine qG 5 [1] 50 (List.flatMap psE (rx.l.set x.bucket.toNat (PS.mk (some ⟨g21_, 0, none⟩) c20_ ((rx.l.getD x.bucket.toNat (PS.mk none 0 [])).ps ++ [(⟨(callF w.b (carF w.b x.node)).f1, (callF w.b (carF w.b x.node)).f2⟩ : S129)]))) ++ sp10_) (fun g22_ => ?_)
          refine rZ 3 ?_
          refine qR [.agg (encSc (ScR.mk x.call x.phase x.bucket x.node x.next x.done x.err x.rdone x.rval) (SX.mk (some ⟨g22_, 0, none⟩) c10_ (rx.l.set x.bucket.toNat (PS.mk (some ⟨g21_, 0, none⟩) c20_ ((rx.l.getD x.bucket.toNat (PS.mk none 0 [])).ps ++ [(⟨(callF w.b (carF w.b x.node)).f1, (callF w.b (carF w.b x.node)).f2⟩ : S129)]))) (PS.mk rx.pr.a rx.pr.c rx.pr.ps))).toArray] (fun W1_ hT_ hR_ hF_ => ?_)
          exact ⟨(SX.mk (some ⟨g22_, 0, none⟩) c10_ (rx.l.set x.bucket.toNat (PS.mk (some ⟨g21_, 0, none⟩) c20_ ((rx.l.getD x.bucket.toNat (PS.mk none 0 [])).ps ++ [(⟨(callF w.b (carF w.b x.node)).f1, (callF w.b (carF w.b x.node)).f2⟩ : S129)]))) (PS.mk rx.pr.a rx.pr.c rx.pr.ps)), rfl, ⟨(row_blk (hR_.get 0 rfl)), (by rw [List.length_set]; exact hle10_), (by rw [List.length_set]; exact hs10_), (deep_set (sget hR_ 3 rfl).d ⟨(row_blk (hR_.get 1 rfl)), hle20_, (le_mx (by (try simp only [List.length_append, List.length_cons, List.length_nil]); have b0_ := oF h2; have b1_ := oF h3; have b2_ := oF h4; have b3_ := oF h5; have b4_ := oT h7; have b5_ := beq_ne h9; have p0_ := hB; have r6_ := mx_get rx.l x.bucket.toNat; omega))⟩), (sget hR_ 3 rfl).p⟩, (fun k_ => (fun h_ => h_.elim (fun h_ => hF_ _ (mG 0 rfl) k_ (rowBl_blk h_)) (fun h_ => h_.elim (fun h_ => deepBl_set h_ (fun h_ => hF_ _ (mG 3 rfl) k_ (.inr (.inl h_))) (fun h_ => hF_ _ (mG 1 rfl) k_ (rowBl_blk h_))) (fun h_ => hF_ _ (mG 3 rfl) k_ (.inr (.inr h_)))))), (by first | rfl | exact List.length_set | omega), (by first | exact Nat.le_succ _ | exact mx_app _ _ _ _ _ | omega), hT_.below⟩
       ·refine rO [4, 5, 6, 7, 8, 9, 10, 11, 12, 13, 14] ?_
        refine rZ 19 ?_
        refine rK (p := rx.l.length ≤ 1000000) (fun W_ hR_ => (sget hR_ 1 rfl).s) (fun hs23_ => ?_)
        refine qA (t := 83) (e := 50) (size := 1) (by_ := 24) (i := 4) (n := 0) (c := 0) (x := .v (.slice rx.A rx.l.length rx.C)) (enc := psE) (sp := []) true [] rx.l rx.l psE_len psE_one rfl (by rfl) (Nat.le_refl _) (Nat.zero_le _) (by simp only [List.length_nil]; omega) rfl (fun γ_ W_ hk_ hB_ => by have hR_ : RepAt _ W_ := hB_.rep; exact news_row (sget hR_ 1 rfl).m (row_none (sget hR_ 1 rfl).m psE_len (by decide))) (fun c23_ sp23_ hall23_ hle23_ hmx23_ => ?_)
        refine rZ 3 ?_
        refine qD k18_judge.T8 [0, 0, 2, 0, 0, 24, 0, 64, 0, 256, 960, 1984, 4088, 8191, 16383] [] [1, 3] [] ?_
        refine rO [0, 1, 2, 4, 6, 7, 8, 9, 10] ?_
        refine rZ 9 ?_
        refine qF 3 11 ?_ ?_
        ·refine rO [] ?_
         refine rZ 1 ?_
         refine qF 5 11 ?_ ?_
         ·refine rO [11, 12, 13, 14] ?_
          refine rK (p := (rx.l.getD x.bucket.toNat (PS.mk none 0 [])).ps.length ≤ 1000000) (fun W_ hR_ => (Nat.le_trans (mx_get rx.l x.bucket.toNat) (by omega))) (fun hs24_ => ?_)
          refine qA (t := 50) (e := 129) (size := 2) (by_ := 16) (i := 6) (n := 0) (c := 0) (x := .v (.slice (rx.l.getD x.bucket.toNat (PS.mk none 0 [])).a (rx.l.getD x.bucket.toNat (PS.mk none 0 [])).ps.length (rx.l.getD x.bucket.toNat (PS.mk none 0 [])).c)) (enc := prE) (sp := []) true [] (rx.l.getD x.bucket.toNat (PS.mk none 0 [])).ps (rx.l.getD x.bucket.toNat (PS.mk none 0 [])).ps prE_len prE_one rfl (by rfl) (Nat.le_refl _) (Nat.zero_le _) (by simp only [List.length_nil]; omega) rfl (fun γ_ W_ hk_ hB_ => by have hR_ : RepAt _ W_ := hB_.rep; exact news_row ((sget hR_ 1 rfl).dg x.bucket.toNat).m (row_none ((sget hR_ 1 rfl).dg x.bucket.toNat).m prE_len (by decide))) (fun c24_ sp24_ hall24_ hle24_ hmx24_ => ?_)
          refine rZ 3 ?_
          refine qA (t := 50) (e := 129) (size := 2) (by_ := 16) (i := 7) (n := (rx.l.getD x.bucket.toNat (PS.mk none 0 [])).ps.length) (c := c24_) (x := .sl 8 1 1) (enc := prE) (sp := sp24_) true (rx.l.getD x.bucket.toNat (PS.mk none 0 [])).ps [(⟨(callF w.b (carF w.b x.node)).f1, (callF w.b (carF w.b x.node)).f2⟩ : S129)] ((rx.l.getD x.bucket.toNat (PS.mk none 0 [])).ps ++ [(⟨(callF w.b (carF w.b x.node)).f1, (callF w.b (carF w.b x.node)).f2⟩ : S129)]) prE_len prE_one rfl hall24_ hle24_ hmx24_ (by simp only [List.length_cons, List.length_nil]; have b0_ := oF h2; have b1_ := oF h3; have b2_ := oF h4; have b3_ := oF h5; have b4_ := oF h7; have p0_ := hB; have r5_ := mx_get rx.l x.bucket.toNat; omega) rfl (fun γ_ W_ hk_ hB_ => news_own hB_ (b := ⟨true, 129, [.v (.int .u64 (callF w.b (carF w.b x.node)).f1), .v (.int .u64 (callF w.b (carF w.b x.node)).f2)]⟩) (by kernel_rfl) rfl) (fun c25_ sp25_ hall25_ hle25_ hmx25_ => ?_)
          refine qY (t := 83) (e := 50) (s := 1) (b := 24) (j := 5) (n := rx.l.length) (c := c23_) (k := .i64) (i := x.bucket) (by have b0_ := oF h2; have b1_ := oF h3; have b2_ := oF h4; have b3_ := oF h5; have b4_ := oF h7; have p0_ := hB; omega) (by have b0_ := oF h2; have b1_ := oF h3; have b2_ := oF h4; have b3_ := oF h5; have b4_ := oF h7; have p0_ := hB; omega) ?_
          refine qG 9 [] 129 (List.flatMap prE ((rx.l.getD x.bucket.toNat (PS.mk none 0 [])).ps ++ [(⟨(callF w.b (carF w.b x.node)).f1, (callF w.b (carF w.b x.node)).f2⟩ : S129)]) ++ sp25_) (fun g26_ => ?_)
          refine rZ 1 ?_
          refine qW (t := 50) (k := 1) (j := 5) (of := (Int.toNat x.bucket * 1)) (e := 50) (ag := false) (x := .v (.slice (some ⟨g26_, 0, none⟩) ((rx.l.getD x.bucket.toNat (PS.mk none 0 [])).ps ++ [(⟨(callF w.b (carF w.b x.node)).f1, (callF w.b (carF w.b x.node)).f2⟩ : S129)]).length c25_)) (cs := (List.flatMap psE rx.l ++ sp23_).map .v) true ((List.flatMap psE (rx.l.set x.bucket.toNat (PS.mk (some ⟨g26_, 0, none⟩) c25_ ((rx.l.getD x.bucket.toNat (PS.mk none 0 [])).ps ++ [(⟨(callF w.b (carF w.b x.node)).f1, (callF w.b (carF w.b x.node)).f2⟩ : S129)]))) ++ sp23_).map .v) (ownIn' psE_len (o := 0) (k := 1) (by decide) (by (try simp only [List.length_set, List.length_append, List.length_cons, List.length_nil]); have b0_ := oF h2; have b1_ := oF h3; have b2_ := oF h4; have b3_ := oF h5; have b4_ := oF h7; have p0_ := hB; omega) (Nat.add_zero _).symm) (ownPut' psE_len (o := 0) (k := 1) (d := (PS.mk none 0 [])) ([.slice (some ⟨g26_, 0, none⟩) ((rx.l.getD x.bucket.toNat (PS.mk none 0 [])).ps ++ [(⟨(callF w.b (carF w.b x.node)).f1, (callF w.b (carF w.b x.node)).f2⟩ : S129)]).length c25_]) (by kernel_rfl) (by decide) (by (try simp only [List.length_set, List.length_append, List.length_cons, List.length_nil]); have b0_ := oF h2; have b1_ := oF h3; have b2_ := oF h4; have b3_ := oF h5; have b4_ := oF h7; have p0_ := hB; omega) (PS.mk (some ⟨g26_, 0, none⟩) c25_ ((rx.l.getD x.bucket.toNat (PS.mk none 0 [])).ps ++ [(⟨(callF w.b (carF w.b x.node)).f1, (callF w.b (carF w.b x.node)).f2⟩ : S129)])) (by kernel_rfl) rfl (Nat.add_zero _).symm (by kernel_rfl)) ?_
          refine qP 79 (.sl 5 (rx.l.set x.bucket.toNat (PS.mk (some ⟨g26_, 0, none⟩) c25_ ((rx.l.getD x.bucket.toNat (PS.mk none 0 [])).ps ++ [(⟨(callF w.b (carF w.b x.node)).f1, (callF w.b (carF w.b x.node)).f2⟩ : S129)]))).length c23_) (by rw [List.length_set]) ?_
          refine qP 10 (.sl 5 (rx.l.set x.bucket.toNat (PS.mk (some ⟨g26_, 0, none⟩) c25_ ((rx.l.getD x.bucket.toNat (PS.mk none 0 [])).ps ++ [(⟨(callF w.b (carF w.b x.node)).f1, (callF w.b (carF w.b x.node)).f2⟩ : S129)]))).length c23_) (by rw [List.length_set]) ?_
          refine rZ 9 ?_
          refine qG 5 [1] 50 (List.flatMap psE (rx.l.set x.bucket.toNat (PS.mk (some ⟨g26_, 0, none⟩) c25_ ((rx.l.getD x.bucket.toNat (PS.mk none 0 [])).ps ++ [(⟨(callF w.b (carF w.b x.node)).f1, (callF w.b (carF w.b x.node)).f2⟩ : S129)]))) ++ sp23_) (fun g27_ => ?_)
          refine rZ 3 ?_
          refine qR [.agg (encSc (ScR.mk x.call x.phase x.bucket x.node x.next x.done x.err x.rdone x.rval) (SX.mk (some ⟨g27_, 0, none⟩) c23_ (rx.l.set x.bucket.toNat (PS.mk (some ⟨g26_, 0, none⟩) c25_ ((rx.l.getD x.bucket.toNat (PS.mk none 0 [])).ps ++ [(⟨(callF w.b (carF w.b x.node)).f1, (callF w.b (carF w.b x.node)).f2⟩ : S129)]))) (PS.mk rx.pr.a rx.pr.c rx.pr.ps))).toArray] (fun W1_ hT_ hR_ hF_ => ?_)
          exact ⟨(SX.mk (some ⟨g27_, 0, none⟩) c23_ (rx.l.set x.bucket.toNat (PS.mk (some ⟨g26_, 0, none⟩) c25_ ((rx.l.getD x.bucket.toNat (PS.mk none 0 [])).ps ++ [(⟨(callF w.b (carF w.b x.node)).f1, (callF w.b (carF w.b x.node)).f2⟩ : S129)]))) (PS.mk rx.pr.a rx.pr.c rx.pr.ps)), rfl, ⟨(row_blk (hR_.get 0 rfl)), (by rw [List.length_set]; exact hle23_), (by rw [List.length_set]; exact hs23_), (deep_set (sget hR_ 3 rfl).d ⟨(row_blk (hR_.get 1 rfl)), hle25_, (le_mx (by (try simp only [List.length_append, List.length_cons, List.length_nil]); have b0_ := oF h2; have b1_ := oF h3; have b2_ := oF h4; have b3_ := oF h5; have b4_ := oF h7; have p0_ := hB; have r5_ := mx_get rx.l x.bucket.toNat; omega))⟩), (sget hR_ 3 rfl).p⟩, (fun k_ => (fun h_ => h_.elim (fun h_ => hF_ _ (mG 0 rfl) k_ (rowBl_blk h_)) (fun h_ => h_.elim (fun h_ => deepBl_set h_ (fun h_ => hF_ _ (mG 3 rfl) k_ (.inr (.inl h_))) (fun h_ => hF_ _ (mG 1 rfl) k_ (rowBl_blk h_))) (fun h_ => hF_ _ (mG 3 rfl) k_ (.inr (.inr h_)))))), (by first | rfl | exact List.length_set | omega), (by first | exact Nat.le_succ _ | exact mx_app _ _ _ _ _ | omega), hT_.below⟩
         ·refine rO [5, 12, 13, 14] ?_
          refine rZ 2 ?_
          refine rK (p := (rx.l.getD x.bucket.toNat (PS.mk none 0 [])).ps.length ≤ 1000000) (fun W_ hR_ => (Nat.le_trans (mx_get rx.l x.bucket.toNat) (by omega))) (fun hs28_ => ?_)
          refine qA (t := 50) (e := 129) (size := 2) (by_ := 16) (i := 6) (n := 0) (c := 0) (x := .v (.slice (rx.l.getD x.bucket.toNat (PS.mk none 0 [])).a (rx.l.getD x.bucket.toNat (PS.mk none 0 [])).ps.length (rx.l.getD x.bucket.toNat (PS.mk none 0 [])).c)) (enc := prE) (sp := []) true [] (rx.l.getD x.bucket.toNat (PS.mk none 0 [])).ps (rx.l.getD x.bucket.toNat (PS.mk none 0 [])).ps prE_len prE_one rfl (by rfl) (Nat.le_refl _) (Nat.zero_le _) (by simp only [List.length_nil]; omega) rfl (fun γ_ W_ hk_ hB_ => by have hR_ : RepAt _ W_ := hB_.rep; exact news_row ((sget hR_ 1 rfl).dg x.bucket.toNat).m (row_none ((sget hR_ 1 rfl).dg x.bucket.toNat).m prE_len (by decide))) (fun c28_ sp28_ hall28_ hle28_ hmx28_ => ?_)
          refine rZ 1 ?_
          refine qA (t := 50) (e := 129) (size := 2) (by_ := 16) (i := 8) (n := (rx.l.getD x.bucket.toNat (PS.mk none 0 [])).ps.length) (c := c28_) (x := .sl 7 1 1) (enc := prE) (sp := sp28_) true (rx.l.getD x.bucket.toNat (PS.mk none 0 [])).ps [(⟨(callF w.b (carF w.b x.node)).f1, (callF w.b (carF w.b x.node)).f2⟩ : S129)] ((rx.l.getD x.bucket.toNat (PS.mk none 0 [])).ps ++ [(⟨(callF w.b (carF w.b x.node)).f1, (callF w.b (carF w.b x.node)).f2⟩ : S129)]) prE_len prE_one rfl hall28_ hle28_ hmx28_ (by simp only [List.length_cons, List.length_nil]; have b0_ := oF h2; have b1_ := oF h3; have b2_ := oF h4; have b3_ := oF h5; have b4_ := oF h7; have p0_ := hB; have r5_ := mx_get rx.l x.bucket.toNat; omega) rfl (fun γ_ W_ hk_ hB_ => news_own hB_ (b := ⟨true, 129, [.v (.int .u64 (callF w.b (carF w.b x.node)).f1), .v (.int .u64 (callF w.b (carF w.b x.node)).f2)]⟩) (by kernel_rfl) rfl) (fun c29_ sp29_ hall29_ hle29_ hmx29_ => ?_)
          refine qY (t := 83) (e := 50) (s := 1) (b := 24) (j := 5) (n := rx.l.length) (c := c23_) (k := .i64) (i := x.bucket) (by have b0_ := oF h2; have b1_ := oF h3; have b2_ := oF h4; have b3_ := oF h5; have b4_ := oF h7; have p0_ := hB; omega) (by have b0_ := oF h2; have b1_ := oF h3; have b2_ := oF h4; have b3_ := oF h5; have b4_ := oF h7; have p0_ := hB; omega) ?_
          refine qG 9 [] 129 (List.flatMap prE ((rx.l.getD x.bucket.toNat (PS.mk none 0 [])).ps ++ [(⟨(callF w.b (carF w.b x.node)).f1, (callF w.b (carF w.b x.node)).f2⟩ : S129)]) ++ sp29_) (fun g30_ => ?_)
          refine rZ 1 ?_
          refine qW (t := 50) (k := 1) (j := 5) (of := (Int.toNat x.bucket * 1)) (e := 50) (ag := false) (x := .v (.slice (some ⟨g30_, 0, none⟩) ((rx.l.getD x.bucket.toNat (PS.mk none 0 [])).ps ++ [(⟨(callF w.b (carF w.b x.node)).f1, (callF w.b (carF w.b x.node)).f2⟩ : S129)]).length c29_)) (cs := (List.flatMap psE rx.l ++ sp23_).map .v) true ((List.flatMap psE (rx.l.set x.bucket.toNat (PS.mk (some ⟨g30_, 0, none⟩) c29_ ((rx.l.getD x.bucket.toNat (PS.mk none 0 [])).ps ++ [(⟨(callF w.b (carF w.b x.node)).f1, (callF w.b (carF w.b x.node)).f2⟩ : S129)]))) ++ sp23_).map .v) (ownIn' psE_len (o := 0) (k := 1) (by decide) (by (try simp only [List.length_set, List.length_append, List.length_cons, List.length_nil]); have b0_ := oF h2; have b1_ := oF h3; have b2_ := oF h4; have b3_ := oF h5; have b4_ := oF h7; have p0_ := hB; omega) (Nat.add_zero _).symm) (ownPut' psE_len (o := 0) (k := 1) (d := (PS.mk none 0 [])) ([.slice (some ⟨g30_, 0, none⟩) ((rx.l.getD x.bucket.toNat (PS.mk none 0 [])).ps ++ [(⟨(callF w.b (carF w.b x.node)).f1, (callF w.b (carF w.b x.node)).f2⟩ : S129)]).length c29_]) (by kernel_rfl) (by decide) (by (try simp only [List.length_set, List.length_append, List.length_cons, List.length_nil]); have b0_ := oF h2; have b1_ := oF h3; have b2_ := oF h4; have b3_ := oF h5; have b4_ := oF h7; have p0_ := hB; omega) (PS.mk (some ⟨g30_, 0, none⟩) c29_ ((rx.l.getD x.bucket.toNat (PS.mk none 0 [])).ps ++ [(⟨(callF w.b (carF w.b x.node)).f1, (callF w.b (carF w.b x.node)).f2⟩ : S129)])) (by kernel_rfl) rfl (Nat.add_zero _).symm (by kernel_rfl)) ?_
          refine qP 79 (.sl 5 (rx.l.set x.bucket.toNat (PS.mk (some ⟨g30_, 0, none⟩) c29_ ((rx.l.getD x.bucket.toNat (PS.mk none 0 [])).ps ++ [(⟨(callF w.b (carF w.b x.node)).f1, (callF w.b (carF w.b x.node)).f2⟩ : S129)]))).length c23_) (by rw [List.length_set]) ?_
          refine qP 10 (.sl 5 (rx.l.set x.bucket.toNat (PS.mk (some ⟨g30_, 0, none⟩) c29_ ((rx.l.getD x.bucket.toNat (PS.mk none 0 [])).ps ++ [(⟨(callF w.b (carF w.b x.node)).f1, (callF w.b (carF w.b x.node)).f2⟩ : S129)]))).length c23_) (by rw [List.length_set]) ?_
          refine rZ 9 ?_
          refine qG 5 [1] 50 (List.flatMap psE (rx.l.set x.bucket.toNat (PS.mk (some ⟨g30_, 0, none⟩) c29_ ((rx.l.getD x.bucket.toNat (PS.mk none 0 [])).ps ++ [(⟨(callF w.b (carF w.b x.node)).f1, (callF w.b (carF w.b x.node)).f2⟩ : S129)]))) ++ sp23_) (fun g31_ => ?_)
          refine rZ 3 ?_
          refine qR [.agg (encSc (ScR.mk x.call x.phase x.bucket x.node x.next x.done x.err x.rdone x.rval) (SX.mk (some ⟨g31_, 0, none⟩) c23_ (rx.l.set x.bucket.toNat (PS.mk (some ⟨g30_, 0, none⟩) c29_ ((rx.l.getD x.bucket.toNat (PS.mk none 0 [])).ps ++ [(⟨(callF w.b (carF w.b x.node)).f1, (callF w.b (carF w.b x.node)).f2⟩ : S129)]))) (PS.mk rx.pr.a rx.pr.c rx.pr.ps))).toArray] (fun W1_ hT_ hR_ hF_ => ?_)
          exact ⟨(SX.mk (some ⟨g31_, 0, none⟩) c23_ (rx.l.set x.bucket.toNat (PS.mk (some ⟨g30_, 0, none⟩) c29_ ((rx.l.getD x.bucket.toNat (PS.mk none 0 [])).ps ++ [(⟨(callF w.b (carF w.b x.node)).f1, (callF w.b (carF w.b x.node)).f2⟩ : S129)]))) (PS.mk rx.pr.a rx.pr.c rx.pr.ps)), rfl, ⟨(row_blk (hR_.get 0 rfl)), (by rw [List.length_set]; exact hle23_), (by rw [List.length_set]; exact hs23_), (deep_set (sget hR_ 3 rfl).d ⟨(row_blk (hR_.get 1 rfl)), hle29_, (le_mx (by (try simp only [List.length_append, List.length_cons, List.length_nil]); have b0_ := oF h2; have b1_ := oF h3; have b2_ := oF h4; have b3_ := oF h5; have b4_ := oF h7; have p0_ := hB; have r5_ := mx_get rx.l x.bucket.toNat; omega))⟩), (sget hR_ 3 rfl).p⟩, (fun k_ => (fun h_ => h_.elim (fun h_ => hF_ _ (mG 0 rfl) k_ (rowBl_blk h_)) (fun h_ => h_.elim (fun h_ => deepBl_set h_ (fun h_ => hF_ _ (mG 3 rfl) k_ (.inr (.inl h_))) (fun h_ => hF_ _ (mG 1 rfl) k_ (rowBl_blk h_))) (fun h_ => hF_ _ (mG 3 rfl) k_ (.inr (.inr h_)))))), (by first | rfl | exact List.length_set | omega), (by first | exact Nat.le_succ _ | exact mx_app _ _ _ _ _ | omega), hT_.below⟩
        ·refine rO [3, 5, 12, 13, 14] ?_
         refine rZ 4 ?_
         refine rK (p := (rx.l.getD x.bucket.toNat (PS.mk none 0 [])).ps.length ≤ 1000000) (fun W_ hR_ => (Nat.le_trans (mx_get rx.l x.bucket.toNat) (by omega))) (fun hs32_ => ?_)
         refine qA (t := 50) (e := 129) (size := 2) (by_ := 16) (i := 7) (n := 0) (c := 0) (x := .v (.slice (rx.l.getD x.bucket.toNat (PS.mk none 0 [])).a (rx.l.getD x.bucket.toNat (PS.mk none 0 [])).ps.length (rx.l.getD x.bucket.toNat (PS.mk none 0 [])).c)) (enc := prE) (sp := []) true [] (rx.l.getD x.bucket.toNat (PS.mk none 0 [])).ps (rx.l.getD x.bucket.toNat (PS.mk none 0 [])).ps prE_len prE_one rfl (by rfl) (Nat.le_refl _) (Nat.zero_le _) (by simp only [List.length_nil]; omega) rfl (fun γ_ W_ hk_ hB_ => by have hR_ : RepAt _ W_ := hB_.rep; exact news_row ((sget hR_ 1 rfl).dg x.bucket.toNat).m (row_none ((sget hR_ 1 rfl).dg x.bucket.toNat).m prE_len (by decide))) (fun c32_ sp32_ hall32_ hle32_ hmx32_ => ?_)
         refine rZ 1 ?_
         refine qA (t := 50) (e := 129) (size := 2) (by_ := 16) (i := 8) (n := (rx.l.getD x.bucket.toNat (PS.mk none 0 [])).ps.length) (c := c32_) (x := .sl 6 1 1) (enc := prE) (sp := sp32_) true (rx.l.getD x.bucket.toNat (PS.mk none 0 [])).ps [(⟨(callF w.b (carF w.b x.node)).f1, (callF w.b (carF w.b x.node)).f2⟩ : S129)] ((rx.l.getD x.bucket.toNat (PS.mk none 0 [])).ps ++ [(⟨(callF w.b (carF w.b x.node)).f1, (callF w.b (carF w.b x.node)).f2⟩ : S129)]) prE_len prE_one rfl hall32_ hle32_ hmx32_ (by simp only [List.length_cons, List.length_nil]; have b0_ := oF h2; have b1_ := oF h3; have b2_ := oF h4; have b3_ := oF h5; have b4_ := oF h7; have p0_ := hB; have r5_ := mx_get rx.l x.bucket.toNat; omega) rfl (fun γ_ W_ hk_ hB_ => news_own hB_ (b := ⟨true, 129, [.v (.int .u64 (callF w.b (carF w.b x.node)).f1), .v (.int .u64 (callF w.b (carF w.b x.node)).f2)]⟩) (by kernel_rfl) rfl) (fun c33_ sp33_ hall33_ hle33_ hmx33_ => ?_)
         refine qY (t := 83) (e := 50) (s := 1) (b := 24) (j := 5) (n := rx.l.length) (c := c23_) (k := .i64) (i := x.bucket) (by have b0_ := oF h2; have b1_ := oF h3; have b2_ := oF h4; have b3_ := oF h5; have b4_ := oF h7; have p0_ := hB; omega) (by have b0_ := oF h2; have b1_ := oF h3; have b2_ := oF h4; have b3_ := oF h5; have b4_ := oF h7; have p0_ := hB; omega) ?_
         refine qG 9 [] 129 (List.flatMap prE ((rx.l.getD x.bucket.toNat (PS.mk none 0 [])).ps ++ [(⟨(callF w.b (carF w.b x.node)).f1, (callF w.b (carF w.b x.node)).f2⟩ : S129)]) ++ sp33_) (fun g34_ => ?_)
         refine rZ 1 ?_
         refine qW (t := 50) (k := 1) (j := 5) (of := (Int.toNat x.bucket * 1)) (e := 50) (ag := false) (x := .v (.slice (some ⟨g34_, 0, none⟩) ((rx.l.getD x.bucket.toNat (PS.mk none 0 [])).ps ++ [(⟨(callF w.b (carF w.b x.node)).f1, (callF w.b (carF w.b x.node)).f2⟩ : S129)]).length c33_)) (cs := (List.flatMap psE rx.l ++ sp23_).map .v) true ((List.flatMap psE (rx.l.set x.bucket.toNat (PS.mk (some ⟨g34_, 0, none⟩) c33_ ((rx.l.getD x.bucket.toNat (PS.mk none 0 [])).ps ++ [(⟨(callF w.b (carF w.b x.node)).f1, (callF w.b (carF w.b x.node)).f2⟩ : S129)]))) ++ sp23_).map .v) (ownIn' psE_len (o := 0) (k := 1) (by decide) (by (try simp only [List.length_set, List.length_append, List.length_cons, List.length_nil]); have b0_ := oF h2; have b1_ := oF h3; have b2_ := oF h4; have b3_ := oF h5; have b4_ := oF h7; have p0_ := hB; omega) (Nat.add_zero _).symm) (ownPut' psE_len (o := 0) (k := 1) (d := (PS.mk none 0 [])) ([.slice (some ⟨g34_, 0, none⟩) ((rx.l.getD x.bucket.toNat (PS.mk none 0 [])).ps ++ [(⟨(callF w.b (carF w.b x.node)).f1, (callF w.b (carF w.b x.node)).f2⟩ : S129)]).length c33_]) (by kernel_rfl) (by decide) (by (try simp only [List.length_set, List.length_append, List.length_cons, List.length_nil]); have b0_ := oF h2; have b1_ := oF h3; have b2_ := oF h4; have b3_ := oF h5; have b4_ := oF h7; have p0_ := hB; omega) (PS.mk (some ⟨g34_, 0, none⟩) c33_ ((rx.l.getD x.bucket.toNat (PS.mk none 0 [])).ps ++ [(⟨(callF w.b (carF w.b x.node)).f1, (callF w.b (carF w.b x.node)).f2⟩ : S129)])) (by kernel_rfl) rfl (Nat.add_zero _).symm (by kernel_rfl)) ?_
         refine qP 79 (.sl 5 (rx.l.set x.bucket.toNat (PS.mk (some ⟨g34_, 0, none⟩) c33_ ((rx.l.getD x.bucket.toNat (PS.mk none 0 [])).ps ++ [(⟨(callF w.b (carF w.b x.node)).f1, (callF w.b (carF w.b x.node)).f2⟩ : S129)]))).length c23_) (by rw [List.length_set]) ?_
         refine qP 10 (.sl 5 (rx.l.set x.bucket.toNat (PS.mk (some ⟨g34_, 0, none⟩) c33_ ((rx.l.getD x.bucket.toNat (PS.mk none 0 [])).ps ++ [(⟨(callF w.b (carF w.b x.node)).f1, (callF w.b (carF w.b x.node)).f2⟩ : S129)]))).length c23_) (by rw [List.length_set]) ?_
         refine rZ 9 ?_
         refine qG 5 [1] 50 (List.flatMap psE (rx.l.set x.bucket.toNat (PS.mk (some ⟨g34_, 0, none⟩) c33_ ((rx.l.getD x.bucket.toNat (PS.mk none 0 [])).ps ++ [(⟨(callF w.b (carF w.b x.node)).f1, (callF w.b (carF w.b x.node)).f2⟩ : S129)]))) ++ sp23_) (fun g35_ => ?_)
         refine rZ 3 ?_
         refine qR [.agg (encSc (ScR.mk x.call x.phase x.bucket x.node x.next x.done x.err x.rdone x.rval) (SX.mk (some ⟨g35_, 0, none⟩) c23_ (rx.l.set x.bucket.toNat (PS.mk (some ⟨g34_, 0, none⟩) c33_ ((rx.l.getD x.bucket.toNat (PS.mk none 0 [])).ps ++ [(⟨(callF w.b (carF w.b x.node)).f1, (callF w.b (carF w.b x.node)).f2⟩ : S129)]))) (PS.mk rx.pr.a rx.pr.c rx.pr.ps))).toArray] (fun W1_ hT_ hR_ hF_ => ?_)
         exact ⟨(SX.mk (some ⟨g35_, 0, none⟩) c23_ (rx.l.set x.bucket.toNat (PS.mk (some ⟨g34_, 0, none⟩) c33_ ((rx.l.getD x.bucket.toNat (PS.mk none 0 [])).ps ++ [(⟨(callF w.b (carF w.b x.node)).f1, (callF w.b (carF w.b x.node)).f2⟩ : S129)]))) (PS.mk rx.pr.a rx.pr.c rx.pr.ps)), rfl, ⟨(row_blk (hR_.get 0 rfl)), (by rw [List.length_set]; exact hle23_), (by rw [List.length_set]; exact hs23_), (deep_set (sget hR_ 3 rfl).d ⟨(row_blk (hR_.get 1 rfl)), hle33_, (le_mx (by (try simp only [List.length_append, List.length_cons, List.length_nil]); have b0_ := oF h2; have b1_ := oF h3; have b2_ := oF h4; have b3_ := oF h5; have b4_ := oF h7; have p0_ := hB; have r5_ := mx_get rx.l x.bucket.toNat; omega))⟩), (sget hR_ 3 rfl).p⟩, (fun k_ => (fun h_ => h_.elim (fun h_ => hF_ _ (mG 0 rfl) k_ (rowBl_blk h_)) (fun h_ => h_.elim (fun h_ => deepBl_set h_ (fun h_ => hF_ _ (mG 3 rfl) k_ (.inr (.inl h_))) (fun h_ => hF_ _ (mG 1 rfl) k_ (rowBl_blk h_))) (fun h_ => hF_ _ (mG 3 rfl) k_ (.inr (.inr h_)))))), (by first | rfl | exact List.length_set | omega), (by first | exact Nat.le_succ _ | exact mx_app _ _ _ _ _ | omega), hT_.below⟩
end Go.Proofs.Ytbhakljebcmocaa.PBoundKeeps
end
