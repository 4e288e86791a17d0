/- BoundKeeps (chapter 23): every call keeps to its bound; part 4 of the proof: words, walks by an engine, and plain lemmas, each used by the theorem. -/
import Derived.Carry
import Derived.Deep.RegionLaw
import Derived.Lib.AppendZerosOnto
import Derived.Lib.Overlaps
import Derived.Maps.OwnOps
import Derived.Maps.OwnSet
import Derived.Maps.Views
import Derived.WideKeyArgs2
import Derived.Test.YtbhakljebcmocaaK3
set_option linter.unusedVariables false
set_option linter.unusedSimpArgs false
section
namespace Go.Proofs.Ytbhakljebcmocaa.PBoundKeeps
open Go.RowKit Go.Proofs.YtbhakljebcmocaaW.PrintWords Go.Proofs.YtbhakljebcmocaaW.PrintLast Go.Proofs.YtbhakljebcmocaaW.PrintMore
set_option linter.unusedVariables false
set_option maxHeartbeats 1000000
set_option maxRecDepth 100000
set_option linter.unusedSimpArgs false
def k18_arrive.T1 : Bool × List (List Nat × List Nat) := (true, [([], []), ([0], [0]), ([1], [1]), ([2], [2]), ([3], [3]), ([4, 3], [3, 4]), ([3], [3]), ([6, 3], [3, 6]), ([5, 7, 3, 3], [3, 5, 7]), ([3], [3]), ([9, 3], [3, 9]), ([10, 3], [3, 10]), ([8, 11, 3], [3, 8, 11]), ([3, 12], [3, 12])])
def m18Arrive (w : RW) (x : ScR) : ScR := (bif (x.node != 0) then (bif (decide ((keyF w.b x.node) ≤ x.call.f2)) then (ScR.mk x.call 1 x.bucket x.node x.next x.done x.err x.rdone x.rval) else (bif ((IntKind.i64.wrap (x.bucket + 1)) == w.c.f1) then (ScR.mk x.call 0 (IntKind.i64.wrap (x.bucket + 1)) x.node x.next true 0 true 0) else (ScR.mk x.call 0 (IntKind.i64.wrap (x.bucket + 1)) x.node x.next x.done x.err x.rdone x.rval))) else (bif ((IntKind.i64.wrap (x.bucket + 1)) == w.c.f1) then (ScR.mk x.call 0 (IntKind.i64.wrap (x.bucket + 1)) x.node x.next true 0 true 0) else (ScR.mk x.call 0 (IntKind.i64.wrap (x.bucket + 1)) x.node x.next x.done x.err x.rdone x.rval)))
theorem k18_arrive (w : RW) (rw : RX) (x : ScR) (rx : SX) (hB : mx rx.l ≤ 1000) (W : World) (hW : WAt W w rw) (hW2 : SAt W x rx) : Calls Try.prog 44 #[.agg (encW w rw).toArray, .agg (encSc x rx).toArray] W (fun e W' => ∃ r0 : SX, e = .returned (.agg (encSc (m18Arrive w x) r0).toArray) ∧ SAt W' (m18Arrive w x) r0 ∧ FreshIn [wRep w rw, sRep x rx] W (sRep (m18Arrive w x) r0) ∧ mx r0.l ≤ mx rx.l ∧ Below W.heap.size W W') := by
 refine rf_enter (args := [.agg (encW w rw).toArray, .agg (encSc x rx).toArray]) [wRep w rw, sRep x rx] Try.func44 rfl (two_mem hW hW2) ?_
 refine rX 8 ?_
 refine qD k18_arrive.T1 [0, 1, 3, 7, 15, 31, 15, 79, 255, 15, 527, 1551, 4095, 8191] [] [1, 0] [] ?_
 refine rO [0, 1, 2, 3] ?_
 refine rZ 4 ?_
 refine qS 8 (x.node != 0) (fun h1 => ?_) (fun h1 => ?_)
 ·refine rO [4, 5, 6, 7, 9, 10, 11, 8, 12, 13] ?_
  refine rZ 8 ?_
  refine qV [.agg (encB w.b rw.r).toArray, .int .i64 x.node] (fun W_ hT_ hR_ => c07_Key w.b rw.r x.node _ (wget hR_ 0 rfl).b) ?_
  refine rZ 3 ?_
  refine qI (decide ((keyF w.b x.node) ≤ x.call.f2)) (fun h2 => ?_) (fun h2 => ?_)
  ·refine rZ 10 ?_
   obtain ⟨m_, hq_, hm_⟩ := nm (m18Arrive w x)
   unfold m18Arrive at hm_
   simp only [bT h1, bT h2] at hm_
   refine qR [.agg (encSc m_ rx).toArray] (fun W1_ hT_ hR_ hF_ => ?_) (h := by rewrite [← hm_]; kernel_rfl)
   rw [hq_, ← hm_]
   exact ⟨_, rfl, ⟨(sget hR_ 1 rfl).m, (sget hR_ 1 rfl).l, (sget hR_ 1 rfl).s, (sget hR_ 1 rfl).d, (sget hR_ 1 rfl).p⟩, (fun k_ => (fun h_ => h_.elim (fun h_ => hF_ _ (mG 1 rfl) k_ (.inl h_)) (fun h_ => h_.elim (fun h_ => hF_ _ (mG 1 rfl) k_ (.inr (.inl h_))) (fun h_ => hF_ _ (mG 1 rfl) k_ (.inr (.inr h_)))))), (by first | exact Nat.le_refl _ | omega), hT_.below⟩
  ·refine rZ 24 ?_
   refine qI ((IntKind.i64.wrap (x.bucket + 1)) == w.c.f1) (fun h3 => ?_) (fun h3 => ?_)
   ·refine rZ 11 ?_
    refine qC [.slice rx.A rx.l.length rx.C, .int .i64 x.call.f3] fun W_ hT_ hR_ => (c17_Pairs rx.A rx.C rx.l x.call.f3 _ (sget hR_ 1 rfl).m (sget hR_ 1 rfl).d (sget hR_ 1 rfl).s (sget hR_ 1 rfl).l (by omega)).mono ?_
    rintro e_ W1_ ⟨rx4_, rfl, hw4_, hf4_, hb_⟩
    refine ⟨_, [pRep rx4_], rfl, hb_, (NewOk.cons hw4_ (fun k_ hk_ => .inl (hf4_ k_ hk_)) NewOk.nil), ?_⟩
    refine rZ 9 ?_
    obtain ⟨m_, hq_, hm_⟩ := nm (m18Arrive w x)
    unfold m18Arrive at hm_
    simp only [bT h1, bF h2, bT h3] at hm_
    refine qR [.agg (encSc m_ (SX.mk rx.A rx.C rx.l (PS.mk rx4_.a rx4_.c rx4_.ps))).toArray] (fun W1_ hT_ hR_ hF_ => ?_) (h := by rewrite [← hm_]; kernel_rfl)
    rw [hq_, ← hm_]
    exact ⟨_, rfl, ⟨(sget hR_ 2 rfl).m, (sget hR_ 2 rfl).l, (sget hR_ 2 rfl).s, (sget hR_ 2 rfl).d, (pget hR_ 0 rfl)⟩, (fun k_ => (fun h_ => h_.elim (fun h_ => hF_ _ (mG 2 rfl) k_ (.inl h_)) (fun h_ => h_.elim (fun h_ => hF_ _ (mG 2 rfl) k_ (.inr (.inl h_))) (fun h_ => hF_ _ (mG 0 rfl) k_ h_)))), (by first | exact Nat.le_refl _ | omega), hT_.below⟩
   ·refine rZ 6 ?_
    obtain ⟨m_, hq_, hm_⟩ := nm (m18Arrive w x)
    unfold m18Arrive at hm_
    simp only [bT h1, bF h2, bF h3] at hm_
    refine qR [.agg (encSc m_ rx).toArray] (fun W1_ hT_ hR_ hF_ => ?_) (h := by rewrite [← hm_]; kernel_rfl)
    rw [hq_, ← hm_]
    exact ⟨_, rfl, ⟨(sget hR_ 1 rfl).m, (sget hR_ 1 rfl).l, (sget hR_ 1 rfl).s, (sget hR_ 1 rfl).d, (sget hR_ 1 rfl).p⟩, (fun k_ => (fun h_ => h_.elim (fun h_ => hF_ _ (mG 1 rfl) k_ (.inl h_)) (fun h_ => h_.elim (fun h_ => hF_ _ (mG 1 rfl) k_ (.inr (.inl h_))) (fun h_ => hF_ _ (mG 1 rfl) k_ (.inr (.inr h_)))))), (by first | exact Nat.le_refl _ | omega), hT_.below⟩
 ·refine rO [4, 5, 6, 7, 8, 9, 10, 11, 12, 13] ?_
  refine rZ 36 ?_
  refine qI ((IntKind.i64.wrap (x.bucket + 1)) == w.c.f1) (fun h5 => ?_) (fun h5 => ?_)
  ·refine rZ 11 ?_
   refine qC [.slice rx.A rx.l.length rx.C, .int .i64 x.call.f3] fun W_ hT_ hR_ => (c17_Pairs rx.A rx.C rx.l x.call.f3 _ (sget hR_ 1 rfl).m (sget hR_ 1 rfl).d (sget hR_ 1 rfl).s (sget hR_ 1 rfl).l (by omega)).mono ?_
   rintro e_ W1_ ⟨rx6_, rfl, hw6_, hf6_, hb_⟩
   refine ⟨_, [pRep rx6_], rfl, hb_, (NewOk.cons hw6_ (fun k_ hk_ => .inl (hf6_ k_ hk_)) NewOk.nil), ?_⟩
   refine rZ 9 ?_
   obtain ⟨m_, hq_, hm_⟩ := nm (m18Arrive w x)
   unfold m18Arrive at hm_
   simp only [bF h1, bT h5] at hm_
   refine qR [.agg (encSc m_ (SX.mk rx.A rx.C rx.l (PS.mk rx6_.a rx6_.c rx6_.ps))).toArray] (fun W1_ hT_ hR_ hF_ => ?_) (h := by rewrite [← hm_]; kernel_rfl)
   rw [hq_, ← hm_]
   exact ⟨_, rfl, ⟨(sget hR_ 2 rfl).m, (sget hR_ 2 rfl).l, (sget hR_ 2 rfl).s, (sget hR_ 2 rfl).d, (pget hR_ 0 rfl)⟩, (fun k_ => (fun h_ => h_.elim (fun h_ => hF_ _ (mG 2 rfl) k_ (.inl h_)) (fun h_ => h_.elim (fun h_ => hF_ _ (mG 2 rfl) k_ (.inr (.inl h_))) (fun h_ => hF_ _ (mG 0 rfl) k_ h_)))), (by first | exact Nat.le_refl _ | omega), hT_.below⟩
  ·refine rZ 6 ?_
   obtain ⟨m_, hq_, hm_⟩ := nm (m18Arrive w x)
   unfold m18Arrive at hm_
   simp only [bF h1, bF h5] at hm_
   refine qR [.agg (encSc m_ rx).toArray] (fun W1_ hT_ hR_ hF_ => ?_) (h := by rewrite [← hm_]; kernel_rfl)
   rw [hq_, ← hm_]
   exact ⟨_, rfl, ⟨(sget hR_ 1 rfl).m, (sget hR_ 1 rfl).l, (sget hR_ 1 rfl).s, (sget hR_ 1 rfl).d, (sget hR_ 1 rfl).p⟩, (fun k_ => (fun h_ => h_.elim (fun h_ => hF_ _ (mG 1 rfl) k_ (.inl h_)) (fun h_ => h_.elim (fun h_ => hF_ _ (mG 1 rfl) k_ (.inr (.inl h_))) (fun h_ => hF_ _ (mG 1 rfl) k_ (.inr (.inr h_)))))), (by first | exact Nat.le_refl _ | omega), hT_.below⟩
def k18_New.T7 : Bool × List (List Nat × List Nat) := (true, [([], []), ([], []), ([1], [1]), ([2], [2]), ([3, 3], [3]), ([0, 4], [0, 4]), ([], []), ([6, 5, 0, 1, 2, 3, 4, 5, 6], [5, 6])])
def k18_New.T11 : Bool × List (List Nat × List Nat) := (true, [([], []), ([], []), ([0, 0], [0]), ([1, 2, 0, 1, 2], [1])])
def m18New (w : RW) (t : Int) (x : S48) : RW × ScR := (bif (x.f0 != 4) then (w, (ScR.mk ⟨0, 0, 0, 0⟩ 0 0 0 0 true 1 false 0)) else (bif ((m07Begin w.b t x).2.2 != 0) then ((RW.mk w.c w.ws w.st ((m07Begin w.b t x).1)), (ScR.mk ⟨0, 0, 0, 0⟩ 0 0 0 0 true ((m07Begin w.b t x).2.2) false 0)) else (bif (decide (x.f1 > x.f2)) then ((RW.mk w.c w.ws w.st ((m07Begin w.b t x).1)), (ScR.mk x 0 0 0 0 true 0 true 0)) else (bif (decide (x.f3 < 1)) then ((RW.mk w.c w.ws w.st ((m07Begin w.b t x).1)), (ScR.mk x 0 0 0 0 true 0 true 0)) else ((RW.mk w.c w.ws w.st ((m07Begin w.b t x).1)), (ScR.mk x 0 0 0 0 false 0 false 0))))))
theorem k18_New (w : RW) (rw : RX) (t : Int) (x : S48) (hc : 0 ≤ w.c.f1 ∧ w.c.f1 ≤ 64) (W : World) (hW : WAt W w rw) : Calls Try.prog 33 #[.agg (encW w rw).toArray, .int .i64 t, .agg (encCall x).toArray] W (fun e W' => ∃ r0 : RX, ∃ r1 : SX, e = .returned (.tuple #[.agg (encW ((m18New w t x).1) r0).toArray, .agg (encSc ((m18New w t x).2) r1).toArray]) ∧ WAt W' (m18New w t x).1 r0 ∧ FreshIn [wRep w rw] W (wRep (m18New w t x).1 r0) ∧ SAt W' (m18New w t x).2 r1 ∧ FreshIn [wRep w rw] W (sRep (m18New w t x).2 r1) ∧ mx r1.l = 0 ∧ Below W.heap.size W W') := by
 refine rf_enter (args := [.agg (encW w rw).toArray, .int .i64 t, .agg (encCall x).toArray]) [wRep w rw] Try.func33 rfl (by intro r hr; obtain rfl := List.mem_singleton.mp hr; exact hW) ?_
 refine rX 14 ?_
 refine qI (x.f0 != 4) (fun h1 => ?_) (fun h1 => ?_)
 ·refine rZ 8 ?_
  obtain ⟨m_, hq_, hm_⟩ := nm (m18New w t x)
  unfold m18New at hm_
  simp only [bT h1] at hm_
  refine qR [.agg (encW m_.1 rw).toArray, .agg (encSc m_.2 (SX.mk none 0 [] (PS.mk none 0 []))).toArray] (fun W1_ hT_ hR_ hF_ => ?_) (h := by rewrite [← hm_]; kernel_rfl)
  rw [hq_, ← hm_]
  exact ⟨_, _, rfl, (wget hR_ 0 rfl), (fun k_ => (fun h_ => hF_ _ (mG 0 rfl) k_ h_)), ⟨row_nil, (Nat.le_refl _), (Nat.zero_le _), deep_nil, .nil⟩, (fun k_ => (fun h_ => h_.elim rowBl_none (fun h_ => h_.elim deepBl_nil rowBl_none))), (by first | rfl | exact mx_rep _), hT_.below⟩
 ·refine rZ 7 ?_
  refine qC [.agg (encB w.b rw.r).toArray, .int .i64 t, .agg #[.int .i64 x.f0, .int .u64 x.f1, .int .u64 x.f2, .int .i64 x.f3]] fun W_ hT_ hR_ => (k07_Begin _ _ _ x _ (wget hR_ 0 rfl).b).mono ?_
  rintro e_ W1_ ⟨rx2_, rfl, hw2_, hf2_, hb_⟩
  refine ⟨_, [bRep ((m07Begin w.b t x).1) rx2_], rfl, hb_, (NewOk.cons hw2_ (hf2_.one (fun k_ => (fun h_ => ⟨_, mG 0 rfl, (.inr h_)⟩))) NewOk.nil), ?_⟩
  refine rZ 21 ?_
  refine qI ((m07Begin w.b t x).2.2 != 0) (fun h3 => ?_) (fun h3 => ?_)
  ·refine rZ 9 ?_
   obtain ⟨m_, hq_, hm_⟩ := nm (m18New w t x)
   unfold m18New at hm_
   simp only [bF h1, bT h3] at hm_
   refine qR [.agg (encW m_.1 (RX.mk rw.A rw.C rx2_)).toArray, .agg (encSc m_.2 (SX.mk none 0 [] (PS.mk none 0 []))).toArray] (fun W1_ hT_ hR_ hF_ => ?_) (h := by rewrite [← hm_]; kernel_rfl)
   rw [hq_, ← hm_]
   exact ⟨_, _, rfl, ⟨(wget hR_ 1 rfl).m, (wget hR_ 1 rfl).l, (wget hR_ 1 rfl).s, (bget hR_ 0 rfl)⟩, (fun k_ => (fun h_ => h_.elim (fun h_ => hF_ _ (mG 1 rfl) k_ (.inl h_)) (fun h_ => hF_ _ (mG 0 rfl) k_ h_))), ⟨row_nil, (Nat.le_refl _), (Nat.zero_le _), deep_nil, .nil⟩, (fun k_ => (fun h_ => h_.elim rowBl_none (fun h_ => h_.elim deepBl_nil rowBl_none))), (by first | rfl | exact mx_rep _), hT_.below⟩
  ·refine rZ 2 ?_
   refine qD k18_New.T7 [0, 0, 2, 6, 14, 31, 0, 127] [7] [1, 0] [] ?_
   refine rO [0, 1, 2, 3] ?_
   refine rZ 4 ?_
   refine qF 4 6 ?_ ?_
   ·refine rO [5, 6, 7] ?_
    refine qM (t := 83) (e := 50) (size := 1) (by_ := 24) (k := .i64) (k' := .i64) (n := w.c.f1) (enc := psE) true (PS.mk none 0 []) [.slice none 0 0] (by have p0_ := hc; omega) (by have p0_ := hc; omega) ?_
    refine qG 5 [] 50 (List.flatMap psE (List.replicate w.c.f1.toNat (PS.mk none 0 [])) ++ []) (fun g5_ => ?_)
    refine rZ 15 ?_
    refine qS 46 (decide (x.f1 > x.f2)) (fun h6 => ?_) (fun h6 => ?_)
    ·refine rZ 17 ?_
     refine qD k18_New.T11 [0, 0, 1, 7] [] [0, 6] [] ?_
     refine rO [0, 1, 2, 3] ?_
     refine rZ 7 ?_
     obtain ⟨m_, hq_, hm_⟩ := nm (m18New w t x)
     unfold m18New at hm_
     simp only [bF h1, bF h3, bT h6] at hm_
     refine qR [.agg (encW m_.1 (RX.mk rw.A rw.C rx2_)).toArray, .agg (encSc m_.2 (SX.mk (some ⟨g5_, 0, none⟩) w.c.f1.toNat (List.replicate w.c.f1.toNat (PS.mk none 0 [])) (PS.mk none 0 []))).toArray] (fun W1_ hT_ hR_ hF_ => ?_) (h := by rewrite [← hm_]; kernel_rfl)
     rw [hq_, ← hm_]
     exact ⟨_, _, rfl, ⟨(wget hR_ 2 rfl).m, (wget hR_ 2 rfl).l, (wget hR_ 2 rfl).s, (bget hR_ 1 rfl)⟩, (fun k_ => (fun h_ => h_.elim (fun h_ => hF_ _ (mG 2 rfl) k_ (.inl h_)) (fun h_ => hF_ _ (mG 1 rfl) k_ h_))), ⟨(row_blk (hR_.get 0 rfl)), (Nat.le_of_eq List.length_replicate), (by rw [List.length_replicate]; exact (by have b_ : w.c.f1 ≤ 1000000 := (by have p0_ := hc; omega); omega)), deep_rep, .nil⟩, (fun k_ => (fun h_ => h_.elim (fun h_ => hF_ _ (mG 0 rfl) k_ (rowBl_blk h_)) (fun h_ => h_.elim deepBl_rep rowBl_none))), (by first | rfl | exact mx_rep _), hT_.below⟩
    ·refine rZ 5 ?_
     refine qI (decide (x.f3 < 1)) (fun h7 => ?_) (fun h7 => ?_)
     ·refine rZ 11 ?_
      refine qD k18_New.T11 [0, 0, 1, 7] [] [0, 6] [] ?_
      refine rO [0, 1, 2, 3] ?_
      refine rZ 7 ?_
      obtain ⟨m_, hq_, hm_⟩ := nm (m18New w t x)
      unfold m18New at hm_
      simp only [bF h1, bF h3, bF h6, bT h7] at hm_
      refine qR [.agg (encW m_.1 (RX.mk rw.A rw.C rx2_)).toArray, .agg (encSc m_.2 (SX.mk (some ⟨g5_, 0, none⟩) w.c.f1.toNat (List.replicate w.c.f1.toNat (PS.mk none 0 [])) (PS.mk none 0 []))).toArray] (fun W1_ hT_ hR_ hF_ => ?_) (h := by rewrite [← hm_]; kernel_rfl)
      rw [hq_, ← hm_]
      exact ⟨_, _, rfl, ⟨(wget hR_ 2 rfl).m, (wget hR_ 2 rfl).l, (wget hR_ 2 rfl).s, (bget hR_ 1 rfl)⟩, (fun k_ => (fun h_ => h_.elim (fun h_ => hF_ _ (mG 2 rfl) k_ (.inl h_)) (fun h_ => hF_ _ (mG 1 rfl) k_ h_))), ⟨(row_blk (hR_.get 0 rfl)), (Nat.le_of_eq List.length_replicate), (by rw [List.length_replicate]; exact (by have b_ : w.c.f1 ≤ 1000000 := (by have p0_ := hc; omega); omega)), deep_rep, .nil⟩, (fun k_ => (fun h_ => h_.elim (fun h_ => hF_ _ (mG 0 rfl) k_ (rowBl_blk h_)) (fun h_ => h_.elim deepBl_rep rowBl_none))), (by first | rfl | exact mx_rep _), hT_.below⟩
     ·refine rZ 2 ?_
      refine qD k18_New.T11 [0, 0, 1, 7] [] [0, 6] [] ?_
      refine rO [0, 1, 2, 3] ?_
      refine rZ 7 ?_
      obtain ⟨m_, hq_, hm_⟩ := nm (m18New w t x)
      unfold m18New at hm_
      simp only [bF h1, bF h3, bF h6, bF h7] at hm_
      refine qR [.agg (encW m_.1 (RX.mk rw.A rw.C rx2_)).toArray, .agg (encSc m_.2 (SX.mk (some ⟨g5_, 0, none⟩) w.c.f1.toNat (List.replicate w.c.f1.toNat (PS.mk none 0 [])) (PS.mk none 0 []))).toArray] (fun W1_ hT_ hR_ hF_ => ?_) (h := by rewrite [← hm_]; kernel_rfl)
      rw [hq_, ← hm_]
      exact ⟨_, _, rfl, ⟨(wget hR_ 2 rfl).m, (wget hR_ 2 rfl).l, (wget hR_ 2 rfl).s, (bget hR_ 1 rfl)⟩, (fun k_ => (fun h_ => h_.elim (fun h_ => hF_ _ (mG 2 rfl) k_ (.inl h_)) (fun h_ => hF_ _ (mG 1 rfl) k_ h_))), ⟨(row_blk (hR_.get 0 rfl)), (Nat.le_of_eq List.length_replicate), (by rw [List.length_replicate]; exact (by have b_ : w.c.f1 ≤ 1000000 := (by have p0_ := hc; omega); omega)), deep_rep, .nil⟩, (fun k_ => (fun h_ => h_.elim (fun h_ => hF_ _ (mG 0 rfl) k_ (rowBl_blk h_)) (fun h_ => h_.elim deepBl_rep rowBl_none))), (by first | rfl | exact mx_rep _), hT_.below⟩
   ·refine rO [4, 5, 7] ?_
    refine rZ 2 ?_
    refine qM (t := 83) (e := 50) (size := 1) (by_ := 24) (k := .i64) (k' := .i64) (n := w.c.f1) (enc := psE) true (PS.mk none 0 []) [.slice none 0 0] (by have p0_ := hc; omega) (by have p0_ := hc; omega) ?_
    refine qG 6 [] 50 (List.flatMap psE (List.replicate w.c.f1.toNat (PS.mk none 0 [])) ++ []) (fun g9_ => ?_)
    refine rZ 13 ?_
    refine qS 46 (decide (x.f1 > x.f2)) (fun h10 => ?_) (fun h10 => ?_)
    ·refine rZ 17 ?_
     refine qD k18_New.T11 [0, 0, 1, 7] [] [0, 5] [] ?_
     refine rO [0, 1, 2, 3] ?_
     refine rZ 7 ?_
     obtain ⟨m_, hq_, hm_⟩ := nm (m18New w t x)
     unfold m18New at hm_
     simp only [bF h1, bF h3, bT h10] at hm_
     refine qR [.agg (encW m_.1 (RX.mk rw.A rw.C rx2_)).toArray, .agg (encSc m_.2 (SX.mk (some ⟨g9_, 0, none⟩) w.c.f1.toNat (List.replicate w.c.f1.toNat (PS.mk none 0 [])) (PS.mk none 0 []))).toArray] (fun W1_ hT_ hR_ hF_ => ?_) (h := by rewrite [← hm_]; kernel_rfl)
     rw [hq_, ← hm_]
     exact ⟨_, _, rfl, ⟨(wget hR_ 2 rfl).m, (wget hR_ 2 rfl).l, (wget hR_ 2 rfl).s, (bget hR_ 1 rfl)⟩, (fun k_ => (fun h_ => h_.elim (fun h_ => hF_ _ (mG 2 rfl) k_ (.inl h_)) (fun h_ => hF_ _ (mG 1 rfl) k_ h_))), ⟨(row_blk (hR_.get 0 rfl)), (Nat.le_of_eq List.length_replicate), (by rw [List.length_replicate]; exact (by have b_ : w.c.f1 ≤ 1000000 := (by have p0_ := hc; omega); omega)), deep_rep, .nil⟩, (fun k_ => (fun h_ => h_.elim (fun h_ => hF_ _ (mG 0 rfl) k_ (rowBl_blk h_)) (fun h_ => h_.elim deepBl_rep rowBl_none))), (by first | rfl | exact mx_rep _), hT_.below⟩
    ·refine rZ 5 ?_
     refine qI (decide (x.f3 < 1)) (fun h11 => ?_) (fun h11 => ?_)
     ·refine rZ 11 ?_
      refine qD k18_New.T11 [0, 0, 1, 7] [] [0, 5] [] ?_
      refine rO [0, 1, 2, 3] ?_
      refine rZ 7 ?_
      obtain ⟨m_, hq_, hm_⟩ := nm (m18New w t x)
      unfold m18New at hm_
      simp only [bF h1, bF h3, bF h10, bT h11] at hm_
      refine qR [.agg (encW m_.1 (RX.mk rw.A rw.C rx2_)).toArray, .agg (encSc m_.2 (SX.mk (some ⟨g9_, 0, none⟩) w.c.f1.toNat (List.replicate w.c.f1.toNat (PS.mk none 0 [])) (PS.mk none 0 []))).toArray] (fun W1_ hT_ hR_ hF_ => ?_) (h := by rewrite [← hm_]; kernel_rfl)
      rw [hq_, ← hm_]
      exact ⟨_, _, rfl, ⟨(wget hR_ 2 rfl).m, (wget hR_ 2 rfl).l, (wget hR_ 2 rfl).s, (bget hR_ 1 rfl)⟩, (fun k_ => (fun h_ => h_.elim (fun h_ => hF_ _ (mG 2 rfl) k_ (.inl h_)) (fun h_ => hF_ _ (mG 1 rfl) k_ h_))), ⟨(row_blk (hR_.get 0 rfl)), (Nat.le_of_eq List.length_replicate), (by rw [List.length_replicate]; exact (by have b_ : w.c.f1 ≤ 1000000 := (by have p0_ := hc; omega); omega)), deep_rep, .nil⟩, (fun k_ => (fun h_ => h_.elim (fun h_ => hF_ _ (mG 0 rfl) k_ (rowBl_blk h_)) (fun h_ => h_.elim deepBl_rep rowBl_none))), (by first | rfl | exact mx_rep _), hT_.below⟩
     ·refine rZ 2 ?_
      refine qD k18_New.T11 [0, 0, 1, 7] [] [0, 5] [] ?_
      refine rO [0, 1, 2, 3] ?_
      refine rZ 7 ?_
      obtain ⟨m_, hq_, hm_⟩ := nm (m18New w t x)
      unfold m18New at hm_
      simp only [bF h1, bF h3, bF h10, bF h11] at hm_
      refine qR [.agg (encW m_.1 (RX.mk rw.A rw.C rx2_)).toArray, .agg (encSc m_.2 (SX.mk (some ⟨g9_, 0, none⟩) w.c.f1.toNat (List.replicate w.c.f1.toNat (PS.mk none 0 [])) (PS.mk none 0 []))).toArray] (fun W1_ hT_ hR_ hF_ => ?_) (h := by rewrite [← hm_]; kernel_rfl)
      rw [hq_, ← hm_]
      exact ⟨_, _, rfl, ⟨(wget hR_ 2 rfl).m, (wget hR_ 2 rfl).l, (wget hR_ 2 rfl).s, (bget hR_ 1 rfl)⟩, (fun k_ => (fun h_ => h_.elim (fun h_ => hF_ _ (mG 2 rfl) k_ (.inl h_)) (fun h_ => hF_ _ (mG 1 rfl) k_ h_))), ⟨(row_blk (hR_.get 0 rfl)), (Nat.le_of_eq List.length_replicate), (by rw [List.length_replicate]; exact (by have b_ : w.c.f1 ≤ 1000000 := (by have p0_ := hc; omega); omega)), deep_rep, .nil⟩, (fun k_ => (fun h_ => h_.elim (fun h_ => hF_ _ (mG 0 rfl) k_ (rowBl_blk h_)) (fun h_ => h_.elim deepBl_rep rowBl_none))), (by first | rfl | exact mx_rep _), hT_.below⟩
def k18_Step.T2 : Bool × List (List Nat × List Nat) := (true, [([], []), ([], []), ([0, 0], [0]), ([1, 2, 0, 1, 2], [1])])
def k18_Step.T5 : Bool × List (List Nat × List Nat) := (true, [([], []), ([], []), ([1], [1]), ([], []), ([3], [3]), ([2, 4], [2, 4]), ([0, 5, 5], [0, 5]), ([6], [6]), ([7], [7]), ([7], [7]), ([], []), ([10, 8, 6, 0, 1, 2, 3, 4, 5, 6, 7, 8, 10], [8, 10]), ([9, 11, 0, 1, 2, 3, 4, 5, 6, 7, 8, 9, 10, 11], [9])])
def k18_Step.T7 : Bool × List (List Nat × List Nat) := (true, [([], []), ([], []), ([], []), ([1, 2], [1, 2]), ([0, 3, 0], [0]), ([3, 4, 0, 1, 2, 3, 4], [3])])
def k18_Step.T12 : Bool × List (List Nat × List Nat) := (true, [([], []), ([], []), ([0, 0], [0]), ([1, 2, 0, 1, 2], [1])])
def k18_Step.T14 : Bool × List (List Nat × List Nat) := (true, [([], []), ([], []), ([1], [1]), ([], []), ([3], [3]), ([2, 4], [2, 4]), ([0, 5, 5], [0, 5]), ([6], [6]), ([7], [7]), ([7], [7]), ([], []), ([10, 8, 6, 0, 1, 2, 3, 4, 5, 6, 7, 8, 10], [8, 10]), ([9, 11, 0, 1, 2, 3, 4, 5, 6, 7, 8, 9, 10, 11], [9])])
def k18_Step.T17 : Bool × List (List Nat × List Nat) := (true, [([], []), ([], []), ([], []), ([1, 2], [1, 2]), ([0, 3, 0], [0]), ([3, 4, 0, 1, 2, 3, 4], [3])])
def k18_Step.T19 : Bool × List (List Nat × List Nat) := (true, [([], []), ([], []), ([0, 0], [0]), ([1, 2, 0, 1, 2], [1])])
def k18_Step.c1 (w : RW) (rw : RX) (x : ScR) (rx : SX) (x_ : RX) : St := match x_ with | rx3_ => ⟨[some ⟨true, 37, (encW w rw).map .v⟩, some ⟨true, 85, (encSc x rx).map .v⟩, some ⟨true, 37, (encW (RW.mk ⟨0, 0, 0, 0, 0⟩ [] 0 (RB.mk ⟨0, 0, 0, 0, 0⟩ [] [] [] [] [])) (RX.mk none 0 (RA.mk none none none none none 0 0 0 0 0))).map .v⟩, some ⟨true, 85, (encSc (ScR.mk ⟨0, 0, 0, 0⟩ 0 0 0 0 false 0 false 0) (SX.mk none 0 [] (PS.mk none 0 []))).map .v⟩, some ⟨true, 37, (encW ((m08Next w (lHead w.c x.bucket)).1) rx3_).map .v⟩], [.v (.agg (encW w rw).toArray), .v (.agg (encSc x rx).toArray), .ad 0 0, .ad 1 0, .ad 2 0, .ad 3 0, .ad 4 0, .v (.int .u64 ((m08Next w (lHead w.c x.bucket)).2)), .v (undef), .v (undef), .v (undef), .v (undef), .v (undef), .ad 1 9, .v (.bool x.done), .v (undef), .v (undef), .ad 1 4, .v (.int .i64 x.phase), .v (.bool (x.phase == 0)), .v (.bool (x.phase == 0)), .v (.tuple #[.agg (encW ((m08Next w (lHead w.c x.bucket)).1) rx3_).toArray, .int .u64 ((m08Next w (lHead w.c x.bucket)).2)]), .v (.agg (encW w rw).toArray), .ad 0 0, .v (.agg (encC w.c).toArray), .ad 1 5, .v (.int .i64 x.bucket), .v (.int .i64 (lHead w.c x.bucket)), .v (.tuple #[.agg (encW ((m08Next w (lHead w.c x.bucket)).1) rx3_).toArray, .int .u64 ((m08Next w (lHead w.c x.bucket)).2)]), .v (.agg (encW ((m08Next w (lHead w.c x.bucket)).1) rx3_).toArray), .v (.int .u64 ((m08Next w (lHead w.c x.bucket)).2)), .v (undef), .v (undef), .v (undef), .v (undef), .v (undef), .v (undef), .v (undef), .v (undef), .v (undef), .v (undef), .v (undef), .v (undef), .v (undef), .v (undef), .v (undef), .v (undef), .v (undef), .v (undef), .v (undef), .v (undef), .v (undef), .v (undef), .v (undef), .v (undef), .v (undef), .v (undef), .v (undef), .v (undef), .v (undef), .v (undef), .v (undef), .v (undef), .v (undef), .v (undef), .v (undef), .v (undef), .v (undef), .v (undef), .v (undef), .v (undef), .v (undef), .v (undef), .v (undef), .v (undef), .v (undef), .v (undef), .v (undef), .v (undef)]⟩
def k18_Step.r1 (w : RW) (rw : RX) (x : ScR) (rx : SX) (x_ : RX) : List PRep := match x_ with | rx3_ => [wRep ((m08Next w (lHead w.c x.bucket)).1) rx3_, wRep w rw, sRep x rx]
def k18_Step.c2 (w : RW) (rw : RX) (x : ScR) (rx : SX) (x_ : RX) : St := match x_ with | rx11_ => ⟨[some ⟨true, 37, (encW w rw).map .v⟩, some ⟨true, 85, (encSc x rx).map .v⟩, some ⟨true, 37, (encW (RW.mk ⟨0, 0, 0, 0, 0⟩ [] 0 (RB.mk ⟨0, 0, 0, 0, 0⟩ [] [] [] [] [])) (RX.mk none 0 (RA.mk none none none none none 0 0 0 0 0))).map .v⟩, some ⟨true, 85, (encSc (ScR.mk ⟨0, 0, 0, 0⟩ 0 0 0 0 false 0 false 0) (SX.mk none 0 [] (PS.mk none 0 []))).map .v⟩, some ⟨true, 37, (encW ((m08Word w (carF w.b x.node)).1) rx11_).map .v⟩], [.v (.agg (encW w rw).toArray), .v (.agg (encSc x rx).toArray), .ad 0 0, .ad 1 0, .ad 2 0, .ad 3 0, .v (undef), .v (undef), .v (undef), .v (undef), .ad 4 0, .v (.int .u64 ((m08Word w (carF w.b x.node)).2)), .v (undef), .ad 1 9, .v (.bool x.done), .v (undef), .v (undef), .ad 1 4, .v (.int .i64 x.phase), .v (.bool (x.phase == 0)), .v (.bool (x.phase == 0)), .v (undef), .v (undef), .v (undef), .v (undef), .v (undef), .v (undef), .v (undef), .v (undef), .v (undef), .v (undef), .v (undef), .v (undef), .v (undef), .v (undef), .v (undef), .v (undef), .v (undef), .v (.bool (x.phase == 1)), .v (.bool (x.phase == 1)), .v (undef), .v (undef), .v (undef), .v (undef), .v (undef), .v (undef), .v (undef), .v (undef), .v (undef), .v (undef), .v (undef), .v (undef), .v (.bool (x.phase == 2)), .v (.bool (x.phase == 2)), .v (.tuple #[.agg (encW ((m08Word w (carF w.b x.node)).1) rx11_).toArray, .int .u64 ((m08Word w (carF w.b x.node)).2)]), .v (.agg (encW w rw).toArray), .ad 0 7, .v (.agg (encB w.b rw.r).toArray), .ad 1 6, .v (.int .i64 x.node), .v (.int .i64 (carF w.b x.node)), .v (.tuple #[.agg (encW ((m08Word w (carF w.b x.node)).1) rx11_).toArray, .int .u64 ((m08Word w (carF w.b x.node)).2)]), .v (.agg (encW ((m08Word w (carF w.b x.node)).1) rx11_).toArray), .v (.int .u64 ((m08Word w (carF w.b x.node)).2)), .v (undef), .v (undef), .v (undef), .v (undef), .v (undef), .v (undef), .v (undef), .v (undef), .v (undef), .v (undef), .v (undef), .v (undef), .v (undef), .v (undef), .v (undef)]⟩
def k18_Step.r2 (w : RW) (rw : RX) (x : ScR) (rx : SX) (x_ : RX) : List PRep := match x_ with | rx11_ => [wRep ((m08Word w (carF w.b x.node)).1) rx11_, wRep w rw, sRep x rx]
def m18Step (w : RW) (x : ScR) : RW × ScR := (bif x.done then (w, x) else (bif (x.phase == 0) then ((m08Next w (lHead w.c x.bucket)).1, (m18Arrive ((m08Next w (lHead w.c x.bucket)).1) (ScR.mk x.call x.phase x.bucket (pIndex ((m08Next w (lHead w.c x.bucket)).2)) x.next x.done x.err x.rdone x.rval))) else (bif (x.phase == 1) then ((m08Next w x.node).1, (ScR.mk x.call 2 x.bucket x.node ((m08Next w x.node).2) x.done x.err x.rdone x.rval)) else (bif (x.phase == 2) then ((m08Word w (carF w.b x.node)).1, (m18Arrive ((m08Word w (carF w.b x.node)).1) (ScR.mk x.call x.phase x.bucket (pIndex x.next) x.next x.done x.err x.rdone x.rval))) else (w, (ScR.mk x.call x.phase x.bucket x.node x.next true x.err x.rdone x.rval))))))
theorem k18_Step (w : RW) (rw : RX) (x : ScR) (rx : SX) (hB : mx rx.l ≤ 999) (W : World) (hW : WAt W w rw) (hW2 : SAt W x rx) : Calls Try.prog 35 #[.agg (encW w rw).toArray, .agg (encSc x rx).toArray] W (fun e W' => ∃ r0 : RX, ∃ r1 : SX, e = .returned (.tuple #[.agg (encW ((m18Step w x).1) r0).toArray, .agg (encSc ((m18Step w x).2) r1).toArray]) ∧ WAt W' (m18Step w x).1 r0 ∧ FreshIn [wRep w rw, sRep x rx] W (wRep (m18Step w x).1 r0) ∧ SAt W' (m18Step w x).2 r1 ∧ FreshIn [wRep w rw, sRep x rx] W (sRep (m18Step w x).2 r1) ∧ mx r1.l ≤ mx rx.l + 1 ∧ Below W.heap.size W W') := by
 refine rf_enter (args := [.agg (encW w rw).toArray, .agg (encSc x rx).toArray]) [wRep w rw, sRep x rx] Try.func35 rfl (two_mem hW hW2) ?_
 refine rX 13 ?_
 refine qI x.done (fun h1 => ?_) (fun h1 => ?_)
 ·refine rZ 1 ?_
  refine qD k18_Step.T2 [0, 0, 1, 7] [] [0, 1] [] ?_
  refine rO [0, 1, 2, 3] ?_
  refine rZ 7 ?_
  obtain ⟨m_, hq_, hm_⟩ := nm (m18Step w x)
  unfold m18Step at hm_
  simp only [bT h1] at hm_
  refine qR [.agg (encW m_.1 rw).toArray, .agg (encSc m_.2 rx).toArray] (fun W1_ hT_ hR_ hF_ => ?_) (h := by rewrite [← hm_]; kernel_rfl)
  rw [hq_, ← hm_]
  exact ⟨_, _, rfl, (wget hR_ 0 rfl), (fun k_ => (fun h_ => hF_ _ (mG 0 rfl) k_ h_)), (sget hR_ 1 rfl), (fun k_ => (fun h_ => hF_ _ (mG 1 rfl) k_ h_)), (by omega), hT_.below⟩
 ·refine rZ 13 ?_
  refine qI (x.phase == 0) (fun h2 => ?_) (fun h2 => ?_)
  ·refine rZ 1 ?_
   refine qK (k18_Step.c1 w rw x rx) (k18_Step.r1 w rw x rx) (fun _ => True) ?_ ?_
   ·refine qD k18_Step.T5 [0, 0, 2, 0, 8, 30, 63, 127, 255, 255, 0, 1535, 4095] [11] [0, 1] [] ?_
    refine rO [0, 1, 2, 3, 4] ?_
    refine rZ 5 ?_
    refine qF 5 10 ?_ ?_
    ·refine rO [] ?_
     refine qV [.agg (encC w.c).toArray, .int .i64 x.bucket] (fun W_ hT_ hR_ => c05_Head w.c x.bucket _) ?_
     refine qF 6 10 ?_ ?_
     ·refine rO [7, 8, 9, 10, 11, 12] ?_
      refine qC [.agg (encW w rw).toArray, .int .i64 (lHead w.c x.bucket)] fun W_ hT_ hR_ => (k08_Next _ _ _ _ (wget hR_ 0 rfl)).mono ?_
      rintro e_ W1_ ⟨rx3_, rfl, hw3_, hf3_, hb_⟩
      refine ⟨_, [wRep ((m08Next w (lHead w.c x.bucket)).1) rx3_], rfl, hb_, (NewOk.cons hw3_ (hf3_.one (fun k_ => (fun h_ => ⟨_, mG 0 rfl, h_⟩))) NewOk.nil), ?_⟩
      refine rZ 9 ?_
      exact qJ (k18_Step.c1 w rw x rx) (k18_Step.r1 w rw x rx) (fun _ => True) rx3_ trivial (by simp [k18_Step.r1])
     ·refine rO [6, 7, 8, 9, 11, 12] ?_
      refine rZ 2 ?_
      refine qC [.agg (encW w rw).toArray, .int .i64 (lHead w.c x.bucket)] fun W_ hT_ hR_ => (k08_Next _ _ _ _ (wget hR_ 0 rfl)).mono ?_
      rintro e_ W1_ ⟨rx4_, rfl, hw4_, hf4_, hb_⟩
      refine ⟨_, [wRep ((m08Next w (lHead w.c x.bucket)).1) rx4_], rfl, hb_, (NewOk.cons hw4_ (hf4_.one (fun k_ => (fun h_ => ⟨_, mG 0 rfl, h_⟩))) NewOk.nil), ?_⟩
      refine rZ 7 ?_
      exact qJ (k18_Step.c1 w rw x rx) (k18_Step.r1 w rw x rx) (fun _ => True) rx4_ trivial (by simp [k18_Step.r1])
    ·refine rO [5, 6, 7, 8, 9, 11, 12] ?_
     refine rZ 2 ?_
     refine qV [.agg (encC w.c).toArray, .int .i64 x.bucket] (fun W_ hT_ hR_ => c05_Head w.c x.bucket _) ?_
     refine rZ 1 ?_
     refine qC [.agg (encW w rw).toArray, .int .i64 (lHead w.c x.bucket)] fun W_ hT_ hR_ => (k08_Next _ _ _ _ (wget hR_ 0 rfl)).mono ?_
     rintro e_ W1_ ⟨rx5_, rfl, hw5_, hf5_, hb_⟩
     refine ⟨_, [wRep ((m08Next w (lHead w.c x.bucket)).1) rx5_], rfl, hb_, (NewOk.cons hw5_ (hf5_.one (fun k_ => (fun h_ => ⟨_, mG 0 rfl, h_⟩))) NewOk.nil), ?_⟩
     refine rZ 7 ?_
     exact qJ (k18_Step.c1 w rw x rx) (k18_Step.r1 w rw x rx) (fun _ => True) rx5_ trivial (by simp [k18_Step.r1])
   ·rintro rx3_ -
    refine rZ 3 ?_
    refine qV [.int .u64 ((m08Next w (lHead w.c x.bucket)).2)] (fun W_ hT_ hR_ => c01_Index ((m08Next w (lHead w.c x.bucket)).2) _) ?_
    refine rZ 4 ?_
    refine qD k18_Step.T7 [0, 0, 0, 6, 15, 31] [] [4, 1] [] ?_
    refine rO [0, 1, 2, 3, 4, 5] ?_
    refine rZ 4 ?_
    refine qC [.agg (encW ((m08Next w (lHead w.c x.bucket)).1) rx3_).toArray, .agg (encSc (ScR.mk x.call x.phase x.bucket (pIndex ((m08Next w (lHead w.c x.bucket)).2)) x.next x.done x.err x.rdone x.rval) rx).toArray] fun W_ hT_ hR_ => (k18_arrive ((m08Next w (lHead w.c x.bucket)).1) rx3_ (ScR.mk x.call x.phase x.bucket (pIndex ((m08Next w (lHead w.c x.bucket)).2)) x.next x.done x.err x.rdone x.rval) rx (by omega) _ (wget hR_ 0 rfl) ⟨(sget hR_ 2 rfl).m, (sget hR_ 2 rfl).l, (sget hR_ 2 rfl).s, (sget hR_ 2 rfl).d, (sget hR_ 2 rfl).p⟩).mono ?_
    rintro e_ W1_ ⟨rx6_, rfl, hw6_, hf6_, he7_, hb_⟩
    refine ⟨_, [sRep (m18Arrive ((m08Next w (lHead w.c x.bucket)).1) (ScR.mk x.call x.phase x.bucket (pIndex ((m08Next w (lHead w.c x.bucket)).2)) x.next x.done x.err x.rdone x.rval)) rx6_], rfl, hb_, (NewOk.cons hw6_ (hf6_.two (fun k_ => (fun h_ => ⟨_, mG 0 rfl, h_⟩)) (fun k_ => (fun h_ => h_.elim (fun h_ => ⟨_, mG 2 rfl, (.inl h_)⟩) (fun h_ => h_.elim (fun h_ => ⟨_, mG 2 rfl, (.inr (.inl h_))⟩) (fun h_ => ⟨_, mG 2 rfl, (.inr (.inr h_))⟩))))) NewOk.nil), ?_⟩
    refine rZ 5 ?_
    obtain ⟨m_, hq_, hm_⟩ := nm (m18Step w x)
    unfold m18Step at hm_
    simp only [bF h1, bT h2] at hm_
    refine qR [.agg (encW m_.1 rx3_).toArray, .agg (encSc m_.2 rx6_).toArray] (fun W1_ hT_ hR_ hF_ => ?_) (h := by rewrite [← hm_]; kernel_rfl)
    rw [hq_, ← hm_]
    exact ⟨_, _, rfl, (wget hR_ 1 rfl), (fun k_ => (fun h_ => hF_ _ (mG 1 rfl) k_ h_)), (sget hR_ 0 rfl), (fun k_ => (fun h_ => hF_ _ (mG 0 rfl) k_ h_)), (by omega), hT_.below⟩
  ·refine rZ 5 ?_
   refine qI (x.phase == 1) (fun h8 => ?_) (fun h8 => ?_)
   ·refine rZ 5 ?_
    refine qC [.agg (encW w rw).toArray, .int .i64 x.node] fun W_ hT_ hR_ => (k08_Next _ _ _ _ (wget hR_ 0 rfl)).mono ?_
    rintro e_ W1_ ⟨rx9_, rfl, hw9_, hf9_, hb_⟩
    refine ⟨_, [wRep ((m08Next w x.node).1) rx9_], rfl, hb_, (NewOk.cons hw9_ (hf9_.one (fun k_ => (fun h_ => ⟨_, mG 0 rfl, h_⟩))) NewOk.nil), ?_⟩
    refine rZ 19 ?_
    refine qD k18_Step.T12 [0, 0, 1, 7] [] [4, 1] [] ?_
    refine rO [0, 1, 2, 3] ?_
    refine rZ 7 ?_
    obtain ⟨m_, hq_, hm_⟩ := nm (m18Step w x)
    unfold m18Step at hm_
    simp only [bF h1, bF h2, bT h8] at hm_
    refine qR [.agg (encW m_.1 rx9_).toArray, .agg (encSc m_.2 rx).toArray] (fun W1_ hT_ hR_ hF_ => ?_) (h := by rewrite [← hm_]; kernel_rfl)
    rw [hq_, ← hm_]
    exact ⟨_, _, rfl, (wget hR_ 0 rfl), (fun k_ => (fun h_ => hF_ _ (mG 0 rfl) k_ h_)), ⟨(sget hR_ 2 rfl).m, (sget hR_ 2 rfl).l, (sget hR_ 2 rfl).s, (sget hR_ 2 rfl).d, (sget hR_ 2 rfl).p⟩, (fun k_ => (fun h_ => h_.elim (fun h_ => hF_ _ (mG 2 rfl) k_ (.inl h_)) (fun h_ => h_.elim (fun h_ => hF_ _ (mG 2 rfl) k_ (.inr (.inl h_))) (fun h_ => hF_ _ (mG 2 rfl) k_ (.inr (.inr h_)))))), (by omega), hT_.below⟩
   ·refine rZ 5 ?_
    refine qI (x.phase == 2) (fun h10 => ?_) (fun h10 => ?_)
    ·refine rZ 1 ?_
     refine qK (k18_Step.c2 w rw x rx) (k18_Step.r2 w rw x rx) (fun _ => True) ?_ ?_
     ·refine qD k18_Step.T14 [0, 0, 2, 0, 8, 30, 63, 127, 255, 255, 0, 1535, 4095] [11] [0, 1] [] ?_
      refine rO [0, 1, 2, 3, 4] ?_
      refine rZ 5 ?_
      refine qF 5 10 ?_ ?_
      ·refine rO [] ?_
       refine qV [.agg (encB w.b rw.r).toArray, .int .i64 x.node] (fun W_ hT_ hR_ => c07_Carried w.b rw.r x.node _ (wget hR_ 0 rfl).b) ?_
       refine qF 6 10 ?_ ?_
       ·refine rO [7, 8, 9, 10, 11, 12] ?_
        refine qC [.agg (encW w rw).toArray, .int .i64 (carF w.b x.node)] fun W_ hT_ hR_ => (k08_Word _ _ _ _ (wget hR_ 0 rfl)).mono ?_
        rintro e_ W1_ ⟨rx11_, rfl, hw11_, hf11_, hb_⟩
        refine ⟨_, [wRep ((m08Word w (carF w.b x.node)).1) rx11_], rfl, hb_, (NewOk.cons hw11_ (hf11_.one (fun k_ => (fun h_ => ⟨_, mG 0 rfl, h_⟩))) NewOk.nil), ?_⟩
        refine rZ 9 ?_
        exact qJ (k18_Step.c2 w rw x rx) (k18_Step.r2 w rw x rx) (fun _ => True) rx11_ trivial (by simp [k18_Step.r2])
       ·refine rO [6, 7, 8, 9, 11, 12] ?_
        refine rZ 2 ?_
        refine qC [.agg (encW w rw).toArray, .int .i64 (carF w.b x.node)] fun W_ hT_ hR_ => (k08_Word _ _ _ _ (wget hR_ 0 rfl)).mono ?_
        rintro e_ W1_ ⟨rx12_, rfl, hw12_, hf12_, hb_⟩
        refine ⟨_, [wRep ((m08Word w (carF w.b x.node)).1) rx12_], rfl, hb_, (NewOk.cons hw12_ (hf12_.one (fun k_ => (fun h_ => ⟨_, mG 0 rfl, h_⟩))) NewOk.nil), ?_⟩
        refine rZ 7 ?_
        exact qJ (k18_Step.c2 w rw x rx) (k18_Step.r2 w rw x rx) (fun _ => True) rx12_ trivial (by simp [k18_Step.r2])
      ·refine rO [5, 6, 7, 8, 9, 11, 12] ?_
       refine rZ 2 ?_
       refine qV [.agg (encB w.b rw.r).toArray, .int .i64 x.node] (fun W_ hT_ hR_ => c07_Carried w.b rw.r x.node _ (wget hR_ 0 rfl).b) ?_
       refine rZ 1 ?_
       refine qC [.agg (encW w rw).toArray, .int .i64 (carF w.b x.node)] fun W_ hT_ hR_ => (k08_Word _ _ _ _ (wget hR_ 0 rfl)).mono ?_
       rintro e_ W1_ ⟨rx13_, rfl, hw13_, hf13_, hb_⟩
       refine ⟨_, [wRep ((m08Word w (carF w.b x.node)).1) rx13_], rfl, hb_, (NewOk.cons hw13_ (hf13_.one (fun k_ => (fun h_ => ⟨_, mG 0 rfl, h_⟩))) NewOk.nil), ?_⟩
       refine rZ 7 ?_
       exact qJ (k18_Step.c2 w rw x rx) (k18_Step.r2 w rw x rx) (fun _ => True) rx13_ trivial (by simp [k18_Step.r2])
     ·rintro rx11_ -
      refine rZ 5 ?_
      refine qC [.agg (encW ((m08Word w (carF w.b x.node)).1) rx11_).toArray, .agg (encSc x rx).toArray, .int .u64 ((m08Word w (carF w.b x.node)).2)] fun W_ hT_ hR_ => (k18_judge ((m08Word w (carF w.b x.node)).1) rx11_ x rx ((m08Word w (carF w.b x.node)).2) (by omega) _ (wget hR_ 0 rfl) (sget hR_ 2 rfl)).mono ?_
      rintro e_ W1_ ⟨rx14_, rfl, hw14_, hf14_, he15_, he16_, hb_⟩
      refine ⟨_, [sRep x rx14_], rfl, hb_, (NewOk.cons hw14_ (hf14_.two (fun k_ => (fun h_ => ⟨_, mG 0 rfl, h_⟩)) (fun k_ => (fun h_ => ⟨_, mG 2 rfl, h_⟩))) NewOk.nil), ?_⟩
      refine rZ 7 ?_
      refine qV [.int .u64 x.next] (fun W_ hT_ hR_ => c01_Index x.next _) ?_
      refine rZ 4 ?_
      refine qD k18_Step.T17 [0, 0, 0, 6, 15, 31] [] [4, 5] [] ?_
      refine rO [0, 1, 2, 3, 4, 5] ?_
      refine rZ 4 ?_
      refine qC [.agg (encW ((m08Word w (carF w.b x.node)).1) rx11_).toArray, .agg (encSc (ScR.mk x.call x.phase x.bucket (pIndex x.next) x.next x.done x.err x.rdone x.rval) rx14_).toArray] fun W_ hT_ hR_ => (k18_arrive ((m08Word w (carF w.b x.node)).1) rx11_ (ScR.mk x.call x.phase x.bucket (pIndex x.next) x.next x.done x.err x.rdone x.rval) rx14_ (by omega) _ (wget hR_ 1 rfl) ⟨(sget hR_ 0 rfl).m, (sget hR_ 0 rfl).l, (sget hR_ 0 rfl).s, (sget hR_ 0 rfl).d, (sget hR_ 0 rfl).p⟩).mono ?_
      rintro e_ W1_ ⟨rx17_, rfl, hw17_, hf17_, he18_, hb_⟩
      refine ⟨_, [sRep (m18Arrive ((m08Word w (carF w.b x.node)).1) (ScR.mk x.call x.phase x.bucket (pIndex x.next) x.next x.done x.err x.rdone x.rval)) rx17_], rfl, hb_, (NewOk.cons hw17_ (hf17_.two (fun k_ => (fun h_ => ⟨_, mG 1 rfl, h_⟩)) (fun k_ => (fun h_ => h_.elim (fun h_ => ⟨_, mG 0 rfl, (.inl h_)⟩) (fun h_ => h_.elim (fun h_ => ⟨_, mG 0 rfl, (.inr (.inl h_))⟩) (fun h_ => ⟨_, mG 0 rfl, (.inr (.inr h_))⟩))))) NewOk.nil), ?_⟩
      refine rZ 5 ?_
      obtain ⟨m_, hq_, hm_⟩ := nm (m18Step w x)
      unfold m18Step at hm_
      simp only [bF h1, bF h2, bF h8, bT h10] at hm_
      refine qR [.agg (encW m_.1 rx11_).toArray, .agg (encSc m_.2 rx17_).toArray] (fun W1_ hT_ hR_ hF_ => ?_) (h := by rewrite [← hm_]; kernel_rfl)
      rw [hq_, ← hm_]
      exact ⟨_, _, rfl, (wget hR_ 2 rfl), (fun k_ => (fun h_ => hF_ _ (mG 2 rfl) k_ h_)), (sget hR_ 0 rfl), (fun k_ => (fun h_ => hF_ _ (mG 0 rfl) k_ h_)), (by omega), hT_.below⟩
    ·refine rZ 8 ?_
     refine qD k18_Step.T19 [0, 0, 1, 7] [] [0, 1] [] ?_
     refine rO [0, 1, 2, 3] ?_
     refine rZ 7 ?_
     obtain ⟨m_, hq_, hm_⟩ := nm (m18Step w x)
     unfold m18Step at hm_
     simp only [bF h1, bF h2, bF h8, bF h10] at hm_
     refine qR [.agg (encW m_.1 rw).toArray, .agg (encSc m_.2 rx).toArray] (fun W1_ hT_ hR_ hF_ => ?_) (h := by rewrite [← hm_]; kernel_rfl)
     rw [hq_, ← hm_]
     exact ⟨_, _, rfl, (wget hR_ 0 rfl), (fun k_ => (fun h_ => hF_ _ (mG 0 rfl) k_ h_)), ⟨(sget hR_ 1 rfl).m, (sget hR_ 1 rfl).l, (sget hR_ 1 rfl).s, (sget hR_ 1 rfl).d, (sget hR_ 1 rfl).p⟩, (fun k_ => (fun h_ => h_.elim (fun h_ => hF_ _ (mG 1 rfl) k_ (.inl h_)) (fun h_ => h_.elim (fun h_ => hF_ _ (mG 1 rfl) k_ (.inr (.inl h_))) (fun h_ => hF_ _ (mG 1 rfl) k_ (.inr (.inr h_)))))), (by omega), hT_.below⟩
end Go.Proofs.Ytbhakljebcmocaa.PBoundKeeps
end
section
namespace Go.Proofs.Ytbhakljebcmocaa.PBoundKeeps
open Go.RowKit Go.Proofs.YtbhakljebcmocaaW.PrintWords Go.Proofs.YtbhakljebcmocaaW.PrintLast Go.Proofs.YtbhakljebcmocaaW.PrintMore
set_option linter.unusedVariables false
set_option maxHeartbeats 1000000
set_option maxRecDepth 100000
set_option linter.unusedSimpArgs false
def m20Thread (d : AD) (n : Int) (t : TR) : AD := (AD.mk d.w (d.ts.set n.toNat t) d.es d.time)
theorem k20_thread (d : AD) (rd : DX) (n : Int) (t : TR) (rt : TX) (hn : 0 ≤ n ∧ n < (rd.l.length : Int)) (W : World) (hW : DAt W d rd) (hW2 : TAt W t rt) : Calls Try.prog 23 #[.agg (encD d rd).toArray, .int .i64 n, .agg (encT t rt).toArray] W (fun e W' => ∃ r0 : DX, e = .returned (.agg (encD (m20Thread d n t) r0).toArray) ∧ DAt W' (m20Thread d n t) r0 ∧ FreshIn [dRep d rd, tRep t rt] W (dRep (m20Thread d n t) r0) ∧ r0.l.length = rd.l.length ∧ (∀ K, mx rt.sx.l ≤ K → MXle rd.l K → MXle r0.l K) ∧ Below W.heap.size W W') := by
 refine rf_enter (args := [.agg (encD d rd).toArray, .int .i64 n, .agg (encT t rt).toArray]) [dRep d rd, tRep t rt] Try.func23 rfl (two_mem hW hW2) ?_
 refine rX 11 ?_
 refine rK (p := rd.l.length ≤ 1000000) (fun W_ hR_ => (dget hR_ 0 rfl).n) (fun hs1_ => ?_)
 refine qA (t := 38) (e := 87) (size := 143) (by_ := 1160) (i := 3) (n := 0) (c := 0) (x := .v (.slice rd.A rd.l.length rd.C)) (enc := thE) (sp := []) true [] rd.l rd.l thE_len thE_one rfl (by rfl) (Nat.le_refl _) (Nat.zero_le _) (by simp only [List.length_nil]; omega) rfl (fun γ_ W_ hk_ hB_ => by have hR_ : RepAt _ W_ := hB_.rep; exact news_row (dget hR_ 0 rfl).m (row_none (dget hR_ 0 rfl).m thE_len (by decide))) (fun c1_ sp1_ hall1_ hle1_ hmx1_ => ?_)
 refine rZ 7 ?_
 refine qY (t := 38) (e := 87) (s := 143) (b := 1160) (j := 4) (n := rd.l.length) (c := c1_) (k := .i64) (i := n) (by have p0_ := hn; omega) (by have p0_ := hn; omega) ?_
 refine qW (t := 87) (k := 143) (j := 4) (of := (Int.toNat n * 143)) (e := 87) (ag := true) (x := .v (.agg (encT t rt).toArray)) (cs := (List.flatMap thE rd.l ++ sp1_).map .v) true ((List.flatMap thE (rd.l.set n.toNat (TH.mk t rt)) ++ sp1_).map .v) (ownIn' thE_len (o := 0) (k := 143) (by decide) (by (try simp only [List.length_set]); have p0_ := hn; omega) (Nat.add_zero _).symm) (ownPut' thE_len (o := 0) (k := 143) (d := zTH) (encT t rt) (by kernel_rfl) (by decide) (by (try simp only [List.length_set]); have p0_ := hn; omega) (TH.mk t rt) (by kernel_rfl) rfl (Nat.add_zero _).symm (by kernel_rfl)) ?_
 refine qP 11 (.sl 4 (rd.l.set n.toNat (TH.mk t rt)).length c1_) (by rw [List.length_set]) ?_
 refine qP 7 (.sl 4 (rd.l.set n.toNat (TH.mk t rt)).length c1_) (by rw [List.length_set]) ?_
 refine rZ 9 ?_
 refine qG 4 [0] 87 (List.flatMap thE (rd.l.set n.toNat (TH.mk t rt)) ++ sp1_) (fun g2_ => ?_)
 refine rZ 3 ?_
 obtain ⟨m_, hq_, hm_⟩ := nm (m20Thread d n t)
 unfold m20Thread at hm_
 try simp only [← hW.tt, ← hW.tl, ← hW.ell] at hm_
 refine qR [.agg (encD m_ (DX.mk rd.x (some ⟨g2_, 0, none⟩) c1_ (rd.l.set n.toNat (TH.mk t rt)) rd.eA rd.eC rd.es)).toArray] (fun W1_ hT_ hR_ hF_ => ?_) (h := by rewrite [← hm_]; kernel_rfl)
 rw [hq_, ← hm_]
 exact ⟨_, rfl, ⟨(dget hR_ 1 rfl).w, (row_blk (hR_.get 0 rfl)), (by rw [List.length_set]; exact hle1_), (by rw [List.length_set]; exact hs1_), (tdeep_set (dget hR_ 1 rfl).dd (tget hR_ 2 rfl)), (dget hR_ 1 rfl).me, (dget hR_ 1 rfl).le, (dget hR_ 1 rfl).ne, (dget hR_ 1 rfl).de, (by rw [List.map_set, (dget hR_ 1 rfl).tm]), (dget hR_ 1 rfl).em⟩, (fun k_ => (fun h_ => h_.elim (fun h_ => hF_ _ (mG 1 rfl) k_ (.inl h_)) (fun h_ => h_.elim (fun h_ => hF_ _ (mG 0 rfl) k_ (rowBl_blk h_)) (fun h_ => h_.elim (fun h_ => tDeep_set h_ (fun h_ => hF_ _ (mG 1 rfl) k_ (.inr (.inr (.inl h_)))) (fun h_ => hF_ _ (mG 2 rfl) k_ h_)) (fun h_ => h_.elim (fun h_ => hF_ _ (mG 1 rfl) k_ (.inr (.inr (.inr (.inl h_))))) (fun h_ => hF_ _ (mG 1 rfl) k_ (.inr (.inr (.inr (.inr h_)))))))))), (by first | rfl | exact List.length_set | omega), (fun K_ h1_ h2_ => MXle.set h2_ h1_), hT_.below⟩
def k20_step.j1.c (d : AD) (rd : DX) (n : Int) (x_ : TR × TX × (Nat → Value)) : St := match x_ with | ⟨Tq, Xq, tv_⟩ => ⟨[some ⟨true, 41, (encD d rd).map .v⟩, some ⟨true, 41, (encD (AD.mk (RW.mk ⟨0, 0, 0, 0, 0⟩ [] 0 (RB.mk ⟨0, 0, 0, 0, 0⟩ [] [] [] [] [])) [] [] 0) (DX.mk (RX.mk none 0 (RA.mk none none none none none 0 0 0 0 0)) none 0 [] none 0 [])).map .v⟩, some ⟨true, 87, (encT Tq Xq).map .v⟩], tvl tv_ 63 [(1, .v (.int .i64 n)), (2, .ad 0 0), (4, .ad 1 0), (5, .v (.bool false)), (6, .ad 2 0)]⟩
def k20_step.j1.r (d : AD) (rd : DX) (n : Int) (x_ : TR × TX × (Nat → Value)) : List PRep := match x_ with | ⟨Tq, Xq, tv_⟩ => [tRep Tq Xq, dRep d rd]
def k20_step.j1.i (d : AD) (rd : DX) (n : Int) (x_ : TR × TX × (Nat → Value)) : Prop := match x_ with | ⟨Tq, Xq, tv_⟩ => Tq = (rd.l.getD n.toNat zTH).t ∧ Xq = (rd.l.getD n.toNat zTH).x
def m20Step (d : AD) (n : Int) : AD × Bool := (bif ((d.ts.getD n.toNat zTR).going == 2) then ((m20Thread (AD.mk ((m18Step d.w (d.ts.getD n.toNat zTR).scan).1) d.ts d.es d.time) n (TR.mk (d.ts.getD n.toNat zTR).prog (d.ts.getD n.toNat zTR).next (d.ts.getD n.toNat zTR).whom (d.ts.getD n.toNat zTR).going (d.ts.getD n.toNat zTR).call ((m18Step d.w (d.ts.getD n.toNat zTR).scan).2) (d.ts.getD n.toNat zTR).event)), (!(d.ts.getD n.toNat zTR).scan.done)) else ((m20Thread (AD.mk ((m16Step d.w (d.ts.getD n.toNat zTR).call).1) d.ts d.es d.time) n (TR.mk (d.ts.getD n.toNat zTR).prog (d.ts.getD n.toNat zTR).next (d.ts.getD n.toNat zTR).whom (d.ts.getD n.toNat zTR).going ((m16Step d.w (d.ts.getD n.toNat zTR).call).2) (d.ts.getD n.toNat zTR).scan (d.ts.getD n.toNat zTR).event)), (!(d.ts.getD n.toNat zTR).call.done)))
theorem k20_step (d : AD) (rd : DX) (n : Int) (hn : 0 ≤ n ∧ n < (rd.l.length : Int)) (hm : mx (rd.l.getD n.toNat zTH).x.sx.l ≤ 999) (W : World) (hW : DAt W d rd) : Calls Try.prog 22 #[.agg (encD d rd).toArray, .int .i64 n] W (fun e W' => ∃ r0 : DX, e = .returned (.tuple #[.agg (encD ((m20Step d n).1) r0).toArray, .bool (m20Step d n).2]) ∧ DAt W' (m20Step d n).1 r0 ∧ FreshIn [dRep d rd] W (dRep (m20Step d n).1 r0) ∧ r0.l.length = rd.l.length ∧ (∀ K, MXle rd.l K → MXle r0.l (K + 1)) ∧ Below W.heap.size W W') := by
 refine rf_enter (args := [.agg (encD d rd).toArray, .int .i64 n]) [dRep d rd] Try.func22 rfl (by intro r hr; obtain rfl := List.mem_singleton.mp hr; exact hW) ?_
 refine rX 7 ?_
 refine qK (k20_step.j1.c d rd n) (k20_step.j1.r d rd n) (k20_step.j1.i d rd n) ?_ ?_
 ·refine rZ 4 ?_
  refine rK (p := ∃ ad, rd.A = some ad) (fun W_ hR_ => row_some (dget hR_ 0 rfl).m (by rw [flat_len thE_len]; exact Nat.mul_pos (by have p0_ := hn; omega) (by decide))) ?_
  rintro ⟨ad1_, had1_⟩
  refine qX (t := 38) (e := 87) (s := 143) (b := 1160) (A := rd.A) (n := rd.l.length) (c := rd.C) (k := .i64) (i := n) ad1_ had1_ (by have p0_ := hn; omega) (by have p0_ := hn; omega) ?_
  refine qL (t := 87) (p := .pointer (some (ad1_.add (Int.toNat n * 143)))) (v := .agg (encT (rd.l.getD n.toNat zTH).t (rd.l.getD n.toNat zTH).x).toArray) [dRep d rd] (fun w_ hR_ => by exact rowA' te_ok (sz := 143) (d := zTH) rfl (by rw [← had1_]; exact (dget hR_ 0 rfl).m) thE_len (o := 0) (by decide) (by have p0_ := hn; omega) (encT (rd.l.getD n.toNat zTH).t (rd.l.getD n.toNat zTH).x) (by kernel_rfl) (by kernel_rfl) (Nat.add_zero _).symm) ?_
  refine rZ 3 ?_
  refine rH (tRep (rd.l.getD n.toNat zTH).t (rd.l.getD n.toNat zTH).x) (fun W_ hR_ => ((dget hR_ 0 rfl).tg n.toNat)) (fun k_ => (fun h_ => ⟨_, mG 0 rfl, (.inr (.inr (.inl (tDeep_get h_))))⟩)) ?_
  refine rG [1, 2, 4, 5, 6] (fun tv_ => ?_)
  exact qJ (k20_step.j1.c d rd n) (k20_step.j1.r d rd n) (k20_step.j1.i d rd n) ⟨(rd.l.getD n.toNat zTH).t, (rd.l.getD n.toNat zTH).x, tv_⟩ ⟨rfl, rfl⟩ (by simp [k20_step.j1.r])
 ·rintro ⟨Tq, Xq, tv2_⟩ ⟨hTq_, hXq_⟩
  rw [← hXq_] at hm
  refine rZ 7 ?_
  refine qI (Tq.going == 2) (fun h3 => ?_) (fun h3 => ?_)
  ·refine rZ 13 ?_
   refine qC [.agg (encW d.w rd.x).toArray, .agg (encSc Tq.scan Xq.sx).toArray] fun W_ hT_ hR_ => (k18_Step d.w rd.x Tq.scan Xq.sx (by omega) _ (dget hR_ 1 rfl).w (tget hR_ 0 rfl).s).mono ?_
   rintro e_ W1_ ⟨rx4_, rx5_, rfl, hw4_, hf4_, hw5_, hf5_, he6_, hb_⟩
   refine ⟨_, [wRep ((m18Step d.w Tq.scan).1) rx4_, sRep ((m18Step d.w Tq.scan).2) rx5_], rfl, hb_, (NewOk.cons hw4_ (hf4_.two (fun k_ => (fun h_ => ⟨_, mG 1 rfl, (.inl h_)⟩)) (fun k_ => (fun h_ => ⟨_, mG 0 rfl, (.inr h_)⟩))) (NewOk.cons hw5_ (hf5_.two (fun k_ => (fun h_ => ⟨_, mG 1 rfl, (.inl h_)⟩)) (fun k_ => (fun h_ => ⟨_, mG 0 rfl, (.inr h_)⟩))) NewOk.nil)), ?_⟩
   refine rZ 25 ?_
   refine qC [.agg (encD (AD.mk ((m18Step d.w Tq.scan).1) d.ts d.es d.time) (DX.mk rx4_ rd.A rd.C rd.l rd.eA rd.eC rd.es)).toArray, .int .i64 n, .agg (encT (TR.mk Tq.prog Tq.next Tq.whom Tq.going Tq.call ((m18Step d.w Tq.scan).2) Tq.event) (TX.mk Xq.pa Xq.pc rx5_)).toArray] fun W_ hT_ hR_ => (k20_thread (AD.mk ((m18Step d.w Tq.scan).1) d.ts d.es d.time) (DX.mk rx4_ rd.A rd.C rd.l rd.eA rd.eC rd.es) n (TR.mk Tq.prog Tq.next Tq.whom Tq.going Tq.call ((m18Step d.w Tq.scan).2) Tq.event) (TX.mk Xq.pa Xq.pc rx5_) (by first | exact hn | omega) _ ⟨(wget hR_ 0 rfl), (dget hR_ 3 rfl).m, (dget hR_ 3 rfl).l, (dget hR_ 3 rfl).n, (dget hR_ 3 rfl).dd, (dget hR_ 3 rfl).me, (dget hR_ 3 rfl).le, (dget hR_ 3 rfl).ne, (dget hR_ 3 rfl).de, (dget hR_ 3 rfl).tm, (dget hR_ 3 rfl).em⟩ ⟨(tget hR_ 2 rfl).m, (tget hR_ 2 rfl).l, (tget hR_ 2 rfl).n, (sget hR_ 1 rfl)⟩).mono ?_
   rintro e_ W1_ ⟨rx7_, rfl, hw7_, hf7_, he8_, he9_, hb_⟩
   refine ⟨_, [dRep (m20Thread (AD.mk ((m18Step d.w Tq.scan).1) d.ts d.es d.time) n (TR.mk Tq.prog Tq.next Tq.whom Tq.going Tq.call ((m18Step d.w Tq.scan).2) Tq.event)) rx7_], rfl, hb_, (NewOk.cons hw7_ (hf7_.two (fun k_ => (fun h_ => h_.elim (fun h_ => ⟨_, mG 0 rfl, h_⟩) (fun h_ => h_.elim (fun h_ => ⟨_, mG 3 rfl, (.inr (.inl h_))⟩) (fun h_ => h_.elim (fun h_ => ⟨_, mG 3 rfl, (.inr (.inr (.inl h_)))⟩) (fun h_ => h_.elim (fun h_ => ⟨_, mG 3 rfl, (.inr (.inr (.inr (.inl h_))))⟩) (fun h_ => ⟨_, mG 3 rfl, (.inr (.inr (.inr (.inr h_))))⟩)))))) (fun k_ => (fun h_ => h_.elim (fun h_ => ⟨_, mG 2 rfl, (.inl h_)⟩) (fun h_ => ⟨_, mG 1 rfl, h_⟩)))) NewOk.nil), ?_⟩
   refine rZ 5 ?_
   obtain ⟨m_, hq_, hm_⟩ := nm (m20Step d n)
   unfold m20Step at hm_
   simp only [← hW.tt, ← hW.tl, ← hW.ell, ← hw7_.tt, ← hw7_.tl, ← hw7_.ell, ← hTq_, bT h3] at hm_
   refine qR [.agg (encD m_.1 rx7_).toArray, .bool m_.2] (fun W1_ hT_ hR_ hF_ => ?_) (h := by rewrite [← hm_]; kernel_rfl)
   rw [hq_, ← hm_]
   exact ⟨_, rfl, (dget hR_ 0 rfl), (fun k_ => (fun h_ => hF_ _ (mG 0 rfl) k_ h_)), (by first | rfl | exact List.length_set | assumption | omega), (fun K_ h_ => he9_ (K_ + 1) (by have q_ := h_.get n.toNat; rw [← hXq_] at q_; dsimp only; omega) (h_.mono (Nat.le_succ _))), hT_.below⟩
  ·refine rZ 14 ?_
   refine qC [.agg (encW d.w rd.x).toArray, .agg (encCallR Tq.call).toArray] fun W_ hT_ hR_ => (k16_Step _ _ _ _ (dget hR_ 1 rfl).w).mono ?_
   rintro e_ W1_ ⟨rx10_, rfl, hw10_, hf10_, hb_⟩
   refine ⟨_, [wRep ((m16Step d.w Tq.call).1) rx10_], rfl, hb_, (NewOk.cons hw10_ (hf10_.one (fun k_ => (fun h_ => ⟨_, mG 1 rfl, (.inl h_)⟩))) NewOk.nil), ?_⟩
   refine rZ 25 ?_
   refine qC [.agg (encD (AD.mk ((m16Step d.w Tq.call).1) d.ts d.es d.time) (DX.mk rx10_ rd.A rd.C rd.l rd.eA rd.eC rd.es)).toArray, .int .i64 n, .agg (encT (TR.mk Tq.prog Tq.next Tq.whom Tq.going ((m16Step d.w Tq.call).2) Tq.scan Tq.event) (TX.mk Xq.pa Xq.pc Xq.sx)).toArray] fun W_ hT_ hR_ => (k20_thread (AD.mk ((m16Step d.w Tq.call).1) d.ts d.es d.time) (DX.mk rx10_ rd.A rd.C rd.l rd.eA rd.eC rd.es) n (TR.mk Tq.prog Tq.next Tq.whom Tq.going ((m16Step d.w Tq.call).2) Tq.scan Tq.event) (TX.mk Xq.pa Xq.pc Xq.sx) (by first | exact hn | omega) _ ⟨(wget hR_ 0 rfl), (dget hR_ 2 rfl).m, (dget hR_ 2 rfl).l, (dget hR_ 2 rfl).n, (dget hR_ 2 rfl).dd, (dget hR_ 2 rfl).me, (dget hR_ 2 rfl).le, (dget hR_ 2 rfl).ne, (dget hR_ 2 rfl).de, (dget hR_ 2 rfl).tm, (dget hR_ 2 rfl).em⟩ ⟨(tget hR_ 1 rfl).m, (tget hR_ 1 rfl).l, (tget hR_ 1 rfl).n, (tget hR_ 1 rfl).s⟩).mono ?_
   rintro e_ W1_ ⟨rx11_, rfl, hw11_, hf11_, he12_, he13_, hb_⟩
   refine ⟨_, [dRep (m20Thread (AD.mk ((m16Step d.w Tq.call).1) d.ts d.es d.time) n (TR.mk Tq.prog Tq.next Tq.whom Tq.going ((m16Step d.w Tq.call).2) Tq.scan Tq.event)) rx11_], rfl, hb_, (NewOk.cons hw11_ (hf11_.two (fun k_ => (fun h_ => h_.elim (fun h_ => ⟨_, mG 0 rfl, h_⟩) (fun h_ => h_.elim (fun h_ => ⟨_, mG 2 rfl, (.inr (.inl h_))⟩) (fun h_ => h_.elim (fun h_ => ⟨_, mG 2 rfl, (.inr (.inr (.inl h_)))⟩) (fun h_ => h_.elim (fun h_ => ⟨_, mG 2 rfl, (.inr (.inr (.inr (.inl h_))))⟩) (fun h_ => ⟨_, mG 2 rfl, (.inr (.inr (.inr (.inr h_))))⟩)))))) (fun k_ => (fun h_ => h_.elim (fun h_ => ⟨_, mG 1 rfl, (.inl h_)⟩) (fun h_ => ⟨_, mG 1 rfl, (.inr h_)⟩)))) NewOk.nil), ?_⟩
   refine rZ 5 ?_
   obtain ⟨m_, hq_, hm_⟩ := nm (m20Step d n)
   unfold m20Step at hm_
   simp only [← hW.tt, ← hW.tl, ← hW.ell, ← hw11_.tt, ← hw11_.tl, ← hw11_.ell, ← hTq_, bF h3] at hm_
   refine qR [.agg (encD m_.1 rx11_).toArray, .bool m_.2] (fun W1_ hT_ hR_ hF_ => ?_) (h := by rewrite [← hm_]; kernel_rfl)
   rw [hq_, ← hm_]
   exact ⟨_, rfl, (dget hR_ 0 rfl), (fun k_ => (fun h_ => hF_ _ (mG 0 rfl) k_ h_)), (by first | rfl | exact List.length_set | assumption | omega), (fun K_ h_ => he13_ (K_ + 1) (by have q_ := h_.get n.toNat; rw [← hXq_] at q_; dsimp only; omega) (h_.mono (Nat.le_succ _))), hT_.below⟩
end Go.Proofs.Ytbhakljebcmocaa.PBoundKeeps
end
section
namespace Go.Proofs.Ytbhakljebcmocaa.PBoundKeeps
open Go.RowKit Go.Proofs.YtbhakljebcmocaaW.PrintWords Go.Proofs.YtbhakljebcmocaaW.PrintLast Go.Proofs.YtbhakljebcmocaaW.PrintMore
set_option linter.unusedVariables false
set_option maxHeartbeats 1000000
set_option maxRecDepth 100000
set_option linter.unusedSimpArgs false
def k20_begin.T16 : Bool × List (List Nat × List Nat) := (true, [([], []), ([], []), ([1], [1]), ([0, 2], [0, 2]), ([], []), ([4], [4]), ([3, 5, 3], [3, 5]), ([0, 1, 2, 3, 4, 5, 6], []), ([7, 6, 6, 0, 1, 2, 3, 4, 5, 6], [6, 7])])
def k20_begin.j1.c (d : AD) (rd : DX) (n : Int) (x_ : TR × TX × (Nat → Value)) : St := match x_ with | ⟨Tq, Xq, tv_⟩ => ⟨[some ⟨true, 41, (encD d rd).map .v⟩, some ⟨true, 41, (encD (AD.mk (RW.mk ⟨0, 0, 0, 0, 0⟩ [] 0 (RB.mk ⟨0, 0, 0, 0, 0⟩ [] [] [] [] [])) [] [] 0) (DX.mk (RX.mk none 0 (RA.mk none none none none none 0 0 0 0 0)) none 0 [] none 0 [])).map .v⟩, some ⟨true, 87, (encT Tq Xq).map .v⟩], tvl tv_ 89 [(1, .v (.int .i64 n)), (2, .ad 0 0), (4, .ad 1 0), (5, .ad 2 0)]⟩
def k20_begin.j1.r (d : AD) (rd : DX) (n : Int) (x_ : TR × TX × (Nat → Value)) : List PRep := match x_ with | ⟨Tq, Xq, tv_⟩ => [tRep Tq Xq, dRep d rd]
def k20_begin.j1.i (d : AD) (rd : DX) (n : Int) (x_ : TR × TX × (Nat → Value)) : Prop := match x_ with | ⟨Tq, Xq, tv_⟩ => Tq = (rd.l.getD n.toNat zTH).t ∧ Xq = (rd.l.getD n.toNat zTH).x
def k20_begin.j2.c (d : AD) (rd : DX) (n : Int) (Tq : TR) (Xq : TX) (tv2_ : Nat → Value) (x_ : S48 × (Nat → Value)) : St := match x_ with | ⟨Cq, tv_⟩ => ⟨[some ⟨true, 41, (encD d rd).map .v⟩, some ⟨true, 41, (encD (AD.mk (RW.mk ⟨0, 0, 0, 0, 0⟩ [] 0 (RB.mk ⟨0, 0, 0, 0, 0⟩ [] [] [] [] [])) [] [] 0) (DX.mk (RX.mk none 0 (RA.mk none none none none none 0 0 0 0 0)) none 0 [] none 0 [])).map .v⟩, some ⟨true, 87, (encT Tq Xq).map .v⟩, some ⟨true, 48, [.v (.int .i64 Cq.f0), .v (.int .u64 Cq.f1), .v (.int .u64 Cq.f2), .v (.int .i64 Cq.f3)]⟩], tvl tv_ 89 [(1, .v (.int .i64 n)), (2, .ad 0 0), (4, .ad 1 0), (5, .ad 2 0), (6, .ad 3 0)]⟩
def k20_begin.j2.r (d : AD) (rd : DX) (n : Int) (Tq : TR) (Xq : TX) (tv2_ : Nat → Value) (x_ : S48 × (Nat → Value)) : List PRep := match x_ with | ⟨Cq, tv_⟩ => [tRep Tq Xq, dRep d rd]
def k20_begin.j2.i (d : AD) (rd : DX) (n : Int) (Tq : TR) (Xq : TX) (tv2_ : Nat → Value) (x_ : S48 × (Nat → Value)) : Prop := match x_ with | ⟨Cq, tv_⟩ => Cq = Tq.prog.getD Tq.next.toNat zCall
def m20Begin (d : AD) (n : Int) : AD := (bif (((d.ts.getD n.toNat zTR).prog.getD (Int.toNat (d.ts.getD n.toNat zTR).next) zCall).f0 == 4) then (m20Thread (AD.mk ((m18New d.w n ((d.ts.getD n.toNat zTR).prog.getD (Int.toNat (d.ts.getD n.toNat zTR).next) zCall)).1) d.ts (d.es ++ [(EA.mk n (d.ts.getD n.toNat zTR).next d.time (-1) 0 ((d.ts.getD n.toNat zTR).prog.getD (Int.toNat (d.ts.getD n.toNat zTR).next) zCall) 0 false 0)]) d.time) n (TR.mk (d.ts.getD n.toNat zTR).prog (IntKind.i64.wrap ((d.ts.getD n.toNat zTR).next + 1)) (d.ts.getD n.toNat zTR).whom 2 (d.ts.getD n.toNat zTR).call ((m18New d.w n ((d.ts.getD n.toNat zTR).prog.getD (Int.toNat (d.ts.getD n.toNat zTR).next) zCall)).2) (d.es.length : Int))) else (m20Thread (AD.mk ((m16New d.w n (d.ts.getD n.toNat zTR).whom ((d.ts.getD n.toNat zTR).prog.getD (Int.toNat (d.ts.getD n.toNat zTR).next) zCall)).1) d.ts (d.es ++ [(EA.mk n (d.ts.getD n.toNat zTR).next d.time (-1) 0 ((d.ts.getD n.toNat zTR).prog.getD (Int.toNat (d.ts.getD n.toNat zTR).next) zCall) 0 false 0)]) d.time) n (TR.mk (d.ts.getD n.toNat zTR).prog (IntKind.i64.wrap ((d.ts.getD n.toNat zTR).next + 1)) (pNx (d.ts.getD n.toNat zTR).whom ((m16New d.w n (d.ts.getD n.toNat zTR).whom ((d.ts.getD n.toNat zTR).prog.getD (Int.toNat (d.ts.getD n.toNat zTR).next) zCall)).1).c.f0) 1 ((m16New d.w n (d.ts.getD n.toNat zTR).whom ((d.ts.getD n.toNat zTR).prog.getD (Int.toNat (d.ts.getD n.toNat zTR).next) zCall)).2) (d.ts.getD n.toNat zTR).scan (d.es.length : Int))))
theorem k20_begin (d : AD) (rd : DX) (n : Int) (hn : 0 ≤ n ∧ n < (rd.l.length : Int)) (hp : 0 ≤ (rd.l.getD n.toNat zTH).t.next ∧ (rd.l.getD n.toNat zTH).t.next < ((rd.l.getD n.toNat zTH).t.prog.length : Int)) (hc : 0 ≤ d.w.c.f1 ∧ d.w.c.f1 ≤ 64) (he : rd.es.length ≤ 999999) (W : World) (hW : DAt W d rd) : Calls Try.prog 21 #[.agg (encD d rd).toArray, .int .i64 n] W (fun e W' => ∃ r0 : DX, e = .returned (.agg (encD (m20Begin d n) r0).toArray) ∧ DAt W' (m20Begin d n) r0 ∧ FreshIn [dRep d rd] W (dRep (m20Begin d n) r0) ∧ r0.l.length = rd.l.length ∧ (∀ K, MXle rd.l K → MXle r0.l K) ∧ Below W.heap.size W W') := by
 refine rf_enter (args := [.agg (encD d rd).toArray, .int .i64 n]) [dRep d rd] Try.func21 rfl (by intro r hr; obtain rfl := List.mem_singleton.mp hr; exact hW) ?_
 refine rX 6 ?_
 refine qK (k20_begin.j1.c d rd n) (k20_begin.j1.r d rd n) (k20_begin.j1.i d rd n) ?_ ?_
 ·refine rZ 4 ?_
  refine rK (p := ∃ ad, rd.A = some ad) (fun W_ hR_ => row_some (dget hR_ 0 rfl).m (by rw [flat_len thE_len]; exact Nat.mul_pos (by have p0_ := hn; have p1_ := hp; have p2_ := he; omega) (by decide))) ?_
  rintro ⟨ad1_, had1_⟩
  refine qX (t := 38) (e := 87) (s := 143) (b := 1160) (A := rd.A) (n := rd.l.length) (c := rd.C) (k := .i64) (i := n) ad1_ had1_ (by have p0_ := hn; have p1_ := hp; have p2_ := he; omega) (by have p0_ := hn; have p1_ := hp; have p2_ := he; omega) ?_
  refine qL (t := 87) (p := .pointer (some (ad1_.add (Int.toNat n * 143)))) (v := .agg (encT (rd.l.getD n.toNat zTH).t (rd.l.getD n.toNat zTH).x).toArray) [dRep d rd] (fun w_ hR_ => by exact rowA' te_ok (sz := 143) (d := zTH) rfl (by rw [← had1_]; exact (dget hR_ 0 rfl).m) thE_len (o := 0) (by decide) (by have p0_ := hn; have p1_ := hp; have p2_ := he; omega) (encT (rd.l.getD n.toNat zTH).t (rd.l.getD n.toNat zTH).x) (by kernel_rfl) (by kernel_rfl) (Nat.add_zero _).symm) ?_
  refine rZ 3 ?_
  refine rH (tRep (rd.l.getD n.toNat zTH).t (rd.l.getD n.toNat zTH).x) (fun W_ hR_ => ((dget hR_ 0 rfl).tg n.toNat)) (fun k_ => (fun h_ => ⟨_, mG 0 rfl, (.inr (.inr (.inl (tDeep_get h_))))⟩)) ?_
  refine rG [1, 2, 4, 5] (fun tv_ => ?_)
  exact qJ (k20_begin.j1.c d rd n) (k20_begin.j1.r d rd n) (k20_begin.j1.i d rd n) ⟨(rd.l.getD n.toNat zTH).t, (rd.l.getD n.toNat zTH).x, tv_⟩ ⟨rfl, rfl⟩ (by simp [k20_begin.j1.r])
 ·rintro ⟨Tq, Xq, tv2_⟩ ⟨hTq_, hXq_⟩
  rw [← hTq_] at hp
  refine rZ 1 ?_
  refine qK (k20_begin.j2.c d rd n Tq Xq tv2_) (k20_begin.j2.r d rd n Tq Xq tv2_) (k20_begin.j2.i d rd n Tq Xq tv2_) ?_ ?_
  ·refine rZ 5 ?_
   refine rK (p := ∃ ad, Xq.pa = some ad) (fun W_ hR_ => row_some ((tget hR_ 0 rfl).m (ne_of (by have p0_ := hn; have p1_ := hp; have p2_ := he; omega))) (by rw [flat_len encCall_len]; exact Nat.mul_pos (by have p0_ := hn; have p1_ := hp; have p2_ := he; omega) (by decide))) ?_
   rintro ⟨ad3_, had3_⟩
   refine qX (t := 58) (e := 48) (s := 4) (b := 32) (A := Xq.pa) (n := Tq.prog.length) (c := Xq.pc) (k := .i64) (i := Tq.next) ad3_ had3_ (by have p0_ := hn; have p1_ := hp; have p2_ := he; omega) (by have p0_ := hn; have p1_ := hp; have p2_ := he; omega) ?_
   refine qL (t := 48) (p := .pointer (some (ad3_.add (Int.toNat Tq.next * 4)))) (v := .agg ([.int .i64 (Tq.prog.getD Tq.next.toNat zCall).f0, .int .u64 (Tq.prog.getD Tq.next.toNat zCall).f1, .int .u64 (Tq.prog.getD Tq.next.toNat zCall).f2, .int .i64 (Tq.prog.getD Tq.next.toNat zCall).f3]).toArray) [tRep Tq Xq, dRep d rd] (fun w_ hR_ => by exact rowA' te_ok (sz := 4) (d := zCall) rfl (by rw [← had3_]; exact ((tget hR_ 0 rfl).m (ne_of (by have p0_ := hn; have p1_ := hp; have p2_ := he; omega)))) encCall_len (o := 0) (by decide) (by have p0_ := hn; have p1_ := hp; have p2_ := he; omega) [.int .i64 (Tq.prog.getD Tq.next.toNat zCall).f0, .int .u64 (Tq.prog.getD Tq.next.toNat zCall).f1, .int .u64 (Tq.prog.getD Tq.next.toNat zCall).f2, .int .i64 (Tq.prog.getD Tq.next.toNat zCall).f3] (by kernel_rfl) (by kernel_rfl) (Nat.add_zero _).symm) ?_
   refine rZ 3 ?_
   refine rG [1, 2, 4, 5, 6] (fun tv_ => ?_)
   exact qJ (k20_begin.j2.c d rd n Tq Xq tv2_) (k20_begin.j2.r d rd n Tq Xq tv2_) (k20_begin.j2.i d rd n Tq Xq tv2_) ⟨(Tq.prog.getD Tq.next.toNat zCall), tv_⟩ rfl (by simp [k20_begin.j2.r, k20_begin.j1.r])
  ·rintro ⟨Cq, tv4_⟩ (hCq_ : Cq = Tq.prog.getD Tq.next.toNat zCall)
   refine rZ 35 ?_
   refine qI (Cq.f0 == 4) (fun h5 => ?_) (fun h5 => ?_)
   ·refine rZ 6 ?_
    refine qC [.agg (encW d.w rd.x).toArray, .int .i64 n, .agg #[.int .i64 Cq.f0, .int .u64 Cq.f1, .int .u64 Cq.f2, .int .i64 Cq.f3]] fun W_ hT_ hR_ => (k18_New d.w rd.x n Cq hc _ (dget hR_ 1 rfl).w).mono ?_
    rintro e_ W1_ ⟨rx6_, rx7_, rfl, hw6_, hf6_, hw7_, hf7_, he8_, hb_⟩
    refine ⟨_, [wRep ((m18New d.w n Cq).1) rx6_, sRep ((m18New d.w n Cq).2) rx7_], rfl, hb_, (NewOk.cons hw6_ (hf6_.one (fun k_ => (fun h_ => ⟨_, mG 1 rfl, (.inl h_)⟩))) (NewOk.cons hw7_ (hf7_.one (fun k_ => (fun h_ => ⟨_, mG 1 rfl, (.inl h_)⟩))) NewOk.nil)), ?_⟩
    refine rZ 25 ?_
    refine qD k20_begin.T16 [0, 0, 2, 7, 0, 16, 63, 127, 255] [8] [0, 4] [] ?_
    refine rO [1, 2, 4] ?_
    refine rZ 3 ?_
    refine qF 0 5 ?_ ?_
    ·refine rO [] ?_
     refine rZ 1 ?_
     refine qF 3 5 ?_ ?_
     ·refine rO [5, 6, 7, 8] ?_
      refine rK (p := rd.es.length ≤ 1000000) (fun W_ hR_ => (dget hR_ 3 rfl).ne) (fun hs9_ => ?_)
      refine qA (t := 39) (e := 54) (size := 13) (by_ := 120) (i := 7) (n := 0) (c := 0) (x := .v (.slice rd.eA rd.es.length rd.eC)) (enc := evE) (sp := []) true [] rd.es rd.es evE_len evE_one rfl (by rfl) (Nat.le_refl _) (Nat.zero_le _) (by simp only [List.length_nil]; omega) rfl (fun γ_ W_ hk_ hB_ => by have hR_ : RepAt _ W_ := hB_.rep; exact news_row (dget hR_ 3 rfl).me (row_none (dget hR_ 3 rfl).me evE_len (by decide))) (fun c9_ sp9_ hall9_ hle9_ hmx9_ => ?_)
      refine rZ 3 ?_
      refine qA (t := 39) (e := 54) (size := 13) (by_ := 120) (i := 8) (n := rd.es.length) (c := c9_) (x := .sl 9 1 1) (enc := evE) (sp := sp9_) true rd.es [(EV.mk (EA.mk n Tq.next d.time (-1) 0 Cq 0 false 0) (PS.mk none 0 []))] (rd.es ++ [(EV.mk (EA.mk n Tq.next d.time (-1) 0 Cq 0 false 0) (PS.mk none 0 []))]) evE_len evE_one rfl hall9_ hle9_ hmx9_ (by simp only [List.length_cons, List.length_nil]; have p0_ := hn; have p1_ := hp; have p2_ := he; omega) rfl (fun γ_ W_ hk_ hB_ => news_own hB_ (b := ⟨true, 54, [.v (.int .i64 n), .v (.int .i64 Tq.next), .v (.int .i64 d.time), .v (.int .i64 (-1)), .v (.int .i64 0), .v (.int .i64 Cq.f0), .v (.int .u64 Cq.f1), .v (.int .u64 Cq.f2), .v (.int .i64 Cq.f3), .v (.int .i64 0), .v (.bool false), .v (.int .u64 0), .v (.slice none 0 0)]⟩) (by kernel_rfl) rfl) (fun c10_ sp10_ hall10_ hle10_ hmx10_ => ?_)
      refine rZ 6 ?_
      refine qG 10 [0] 54 (List.flatMap evE (rd.es ++ [(EV.mk (EA.mk n Tq.next d.time (-1) 0 Cq 0 false 0) (PS.mk none 0 []))]) ++ sp10_) (fun g11_ => ?_)
      refine rZ 3 ?_
      refine qC [.agg (encD (AD.mk ((m18New d.w n Cq).1) d.ts (d.es ++ [(EA.mk n Tq.next d.time (-1) 0 Cq 0 false 0)]) d.time) (DX.mk rx6_ rd.A rd.C rd.l (some ⟨g11_, 0, none⟩) c10_ (rd.es ++ [(EV.mk (EA.mk n Tq.next d.time (-1) 0 Cq 0 false 0) (PS.mk none 0 []))]))).toArray, .int .i64 n, .agg (encT (TR.mk Tq.prog (IntKind.i64.wrap (Tq.next + 1)) Tq.whom 2 Tq.call ((m18New d.w n Cq).2) (rd.es.length : Int)) (TX.mk Xq.pa Xq.pc rx7_)).toArray] fun W_ hT_ hR_ => (k20_thread (AD.mk ((m18New d.w n Cq).1) d.ts (d.es ++ [(EA.mk n Tq.next d.time (-1) 0 Cq 0 false 0)]) d.time) (DX.mk rx6_ rd.A rd.C rd.l (some ⟨g11_, 0, none⟩) c10_ (rd.es ++ [(EV.mk (EA.mk n Tq.next d.time (-1) 0 Cq 0 false 0) (PS.mk none 0 []))])) n (TR.mk Tq.prog (IntKind.i64.wrap (Tq.next + 1)) Tq.whom 2 Tq.call ((m18New d.w n Cq).2) (rd.es.length : Int)) (TX.mk Xq.pa Xq.pc rx7_) (by first | exact hn | omega) _ ⟨(wget hR_ 1 rfl), (dget hR_ 4 rfl).m, (dget hR_ 4 rfl).l, (dget hR_ 4 rfl).n, (dget hR_ 4 rfl).dd, (row_blk (hR_.get 0 rfl)), hle10_, (by (try simp only [List.length_append, List.length_cons, List.length_nil]); have p0_ := hn; have p1_ := hp; have p2_ := he; omega), (edeep_app (dget hR_ 4 rfl).de .nil), (dget hR_ 4 rfl).tm, (by rw [List.map_append, (dget hR_ 4 rfl).em]; rfl)⟩ ⟨(tget hR_ 3 rfl).m, (tget hR_ 3 rfl).l, (tget hR_ 3 rfl).n, (sget hR_ 2 rfl)⟩).mono ?_
      rintro e_ W1_ ⟨rx12_, rfl, hw12_, hf12_, he13_, he14_, hb_⟩
      refine ⟨_, [dRep (m20Thread (AD.mk ((m18New d.w n Cq).1) d.ts (d.es ++ [(EA.mk n Tq.next d.time (-1) 0 Cq 0 false 0)]) d.time) n (TR.mk Tq.prog (IntKind.i64.wrap (Tq.next + 1)) Tq.whom 2 Tq.call ((m18New d.w n Cq).2) (rd.es.length : Int))) rx12_], rfl, hb_, (NewOk.cons hw12_ (hf12_.two (fun k_ => (fun h_ => h_.elim (fun h_ => ⟨_, mG 1 rfl, h_⟩) (fun h_ => h_.elim (fun h_ => ⟨_, mG 4 rfl, (.inr (.inl h_))⟩) (fun h_ => h_.elim (fun h_ => ⟨_, mG 4 rfl, (.inr (.inr (.inl h_)))⟩) (fun h_ => h_.elim (fun h_ => ⟨_, mG 0 rfl, (rowBl_blk h_)⟩) (fun h_ => eDeep_app h_ (fun h_ => ⟨_, mG 4 rfl, (.inr (.inr (.inr (.inr h_))))⟩) rowBl_none)))))) (fun k_ => (fun h_ => h_.elim (fun h_ => ⟨_, mG 3 rfl, (.inl h_)⟩) (fun h_ => ⟨_, mG 2 rfl, h_⟩)))) NewOk.nil), ?_⟩
      refine rZ 2 ?_
      obtain ⟨m_, hq_, hm_⟩ := nm (m20Begin d n)
      unfold m20Begin at hm_
      simp only [← hW.tt, ← hW.tl, ← hW.ell, ← hw12_.tt, ← hw12_.tl, ← hw12_.ell, ← hTq_, ← hCq_, bT h5] at hm_
      refine qR [.agg (encD m_ rx12_).toArray] (fun W1_ hT_ hR_ hF_ => ?_) (h := by rewrite [← hm_]; kernel_rfl)
      rw [hq_, ← hm_]
      exact ⟨_, rfl, (dget hR_ 0 rfl), (fun k_ => (fun h_ => hF_ _ (mG 0 rfl) k_ h_)), (by first | rfl | exact List.length_set | assumption | omega), (fun K_ h_ => he14_ K_ (by have q_ := h_.get n.toNat; rw [← hXq_] at q_; dsimp only; omega) h_), hT_.below⟩
     ·refine rO [3, 6, 7, 8] ?_
      refine rZ 2 ?_
      refine rK (p := rd.es.length ≤ 1000000) (fun W_ hR_ => (dget hR_ 3 rfl).ne) (fun hs15_ => ?_)
      refine qA (t := 39) (e := 54) (size := 13) (by_ := 120) (i := 7) (n := 0) (c := 0) (x := .v (.slice rd.eA rd.es.length rd.eC)) (enc := evE) (sp := []) true [] rd.es rd.es evE_len evE_one rfl (by rfl) (Nat.le_refl _) (Nat.zero_le _) (by simp only [List.length_nil]; omega) rfl (fun γ_ W_ hk_ hB_ => by have hR_ : RepAt _ W_ := hB_.rep; exact news_row (dget hR_ 3 rfl).me (row_none (dget hR_ 3 rfl).me evE_len (by decide))) (fun c15_ sp15_ hall15_ hle15_ hmx15_ => ?_)
      refine rZ 1 ?_
      refine qA (t := 39) (e := 54) (size := 13) (by_ := 120) (i := 9) (n := rd.es.length) (c := c15_) (x := .sl 8 1 1) (enc := evE) (sp := sp15_) true rd.es [(EV.mk (EA.mk n Tq.next d.time (-1) 0 Cq 0 false 0) (PS.mk none 0 []))] (rd.es ++ [(EV.mk (EA.mk n Tq.next d.time (-1) 0 Cq 0 false 0) (PS.mk none 0 []))]) evE_len evE_one rfl hall15_ hle15_ hmx15_ (by simp only [List.length_cons, List.length_nil]; have p0_ := hn; have p1_ := hp; have p2_ := he; omega) rfl (fun γ_ W_ hk_ hB_ => news_own hB_ (b := ⟨true, 54, [.v (.int .i64 n), .v (.int .i64 Tq.next), .v (.int .i64 d.time), .v (.int .i64 (-1)), .v (.int .i64 0), .v (.int .i64 Cq.f0), .v (.int .u64 Cq.f1), .v (.int .u64 Cq.f2), .v (.int .i64 Cq.f3), .v (.int .i64 0), .v (.bool false), .v (.int .u64 0), .v (.slice none 0 0)]⟩) (by kernel_rfl) rfl) (fun c16_ sp16_ hall16_ hle16_ hmx16_ => ?_)
      refine rZ 6 ?_
      refine qG 10 [0] 54 (List.flatMap evE (rd.es ++ [(EV.mk (EA.mk n Tq.next d.time (-1) 0 Cq 0 false 0) (PS.mk none 0 []))]) ++ sp16_) (fun g17_ => ?_)
      refine rZ 3 ?_
      refine qC [.agg (encD (AD.mk ((m18New d.w n Cq).1) d.ts (d.es ++ [(EA.mk n Tq.next d.time (-1) 0 Cq 0 false 0)]) d.time) (DX.mk rx6_ rd.A rd.C rd.l (some ⟨g17_, 0, none⟩) c16_ (rd.es ++ [(EV.mk (EA.mk n Tq.next d.time (-1) 0 Cq 0 false 0) (PS.mk none 0 []))]))).toArray, .int .i64 n, .agg (encT (TR.mk Tq.prog (IntKind.i64.wrap (Tq.next + 1)) Tq.whom 2 Tq.call ((m18New d.w n Cq).2) (rd.es.length : Int)) (TX.mk Xq.pa Xq.pc rx7_)).toArray] fun W_ hT_ hR_ => (k20_thread (AD.mk ((m18New d.w n Cq).1) d.ts (d.es ++ [(EA.mk n Tq.next d.time (-1) 0 Cq 0 false 0)]) d.time) (DX.mk rx6_ rd.A rd.C rd.l (some ⟨g17_, 0, none⟩) c16_ (rd.es ++ [(EV.mk (EA.mk n Tq.next d.time (-1) 0 Cq 0 false 0) (PS.mk none 0 []))])) n (TR.mk Tq.prog (IntKind.i64.wrap (Tq.next + 1)) Tq.whom 2 Tq.call ((m18New d.w n Cq).2) (rd.es.length : Int)) (TX.mk Xq.pa Xq.pc rx7_) (by first | exact hn | omega) _ ⟨(wget hR_ 1 rfl), (dget hR_ 4 rfl).m, (dget hR_ 4 rfl).l, (dget hR_ 4 rfl).n, (dget hR_ 4 rfl).dd, (row_blk (hR_.get 0 rfl)), hle16_, (by (try simp only [List.length_append, List.length_cons, List.length_nil]); have p0_ := hn; have p1_ := hp; have p2_ := he; omega), (edeep_app (dget hR_ 4 rfl).de .nil), (dget hR_ 4 rfl).tm, (by rw [List.map_append, (dget hR_ 4 rfl).em]; rfl)⟩ ⟨(tget hR_ 3 rfl).m, (tget hR_ 3 rfl).l, (tget hR_ 3 rfl).n, (sget hR_ 2 rfl)⟩).mono ?_
      rintro e_ W1_ ⟨rx18_, rfl, hw18_, hf18_, he19_, he20_, hb_⟩
      refine ⟨_, [dRep (m20Thread (AD.mk ((m18New d.w n Cq).1) d.ts (d.es ++ [(EA.mk n Tq.next d.time (-1) 0 Cq 0 false 0)]) d.time) n (TR.mk Tq.prog (IntKind.i64.wrap (Tq.next + 1)) Tq.whom 2 Tq.call ((m18New d.w n Cq).2) (rd.es.length : Int))) rx18_], rfl, hb_, (NewOk.cons hw18_ (hf18_.two (fun k_ => (fun h_ => h_.elim (fun h_ => ⟨_, mG 1 rfl, h_⟩) (fun h_ => h_.elim (fun h_ => ⟨_, mG 4 rfl, (.inr (.inl h_))⟩) (fun h_ => h_.elim (fun h_ => ⟨_, mG 4 rfl, (.inr (.inr (.inl h_)))⟩) (fun h_ => h_.elim (fun h_ => ⟨_, mG 0 rfl, (rowBl_blk h_)⟩) (fun h_ => eDeep_app h_ (fun h_ => ⟨_, mG 4 rfl, (.inr (.inr (.inr (.inr h_))))⟩) rowBl_none)))))) (fun k_ => (fun h_ => h_.elim (fun h_ => ⟨_, mG 3 rfl, (.inl h_)⟩) (fun h_ => ⟨_, mG 2 rfl, h_⟩)))) NewOk.nil), ?_⟩
      refine rZ 2 ?_
      obtain ⟨m_, hq_, hm_⟩ := nm (m20Begin d n)
      unfold m20Begin at hm_
      simp only [← hW.tt, ← hW.tl, ← hW.ell, ← hw18_.tt, ← hw18_.tl, ← hw18_.ell, ← hTq_, ← hCq_, bT h5] at hm_
      refine qR [.agg (encD m_ rx18_).toArray] (fun W1_ hT_ hR_ hF_ => ?_) (h := by rewrite [← hm_]; kernel_rfl)
      rw [hq_, ← hm_]
      exact ⟨_, rfl, (dget hR_ 0 rfl), (fun k_ => (fun h_ => hF_ _ (mG 0 rfl) k_ h_)), (by first | rfl | exact List.length_set | assumption | omega), (fun K_ h_ => he20_ K_ (by have q_ := h_.get n.toNat; rw [← hXq_] at q_; dsimp only; omega) h_), hT_.below⟩
    ·refine rO [0, 3, 6, 7, 8] ?_
     refine rZ 4 ?_
     refine rK (p := rd.es.length ≤ 1000000) (fun W_ hR_ => (dget hR_ 3 rfl).ne) (fun hs21_ => ?_)
     refine qA (t := 39) (e := 54) (size := 13) (by_ := 120) (i := 8) (n := 0) (c := 0) (x := .v (.slice rd.eA rd.es.length rd.eC)) (enc := evE) (sp := []) true [] rd.es rd.es evE_len evE_one rfl (by rfl) (Nat.le_refl _) (Nat.zero_le _) (by simp only [List.length_nil]; omega) rfl (fun γ_ W_ hk_ hB_ => by have hR_ : RepAt _ W_ := hB_.rep; exact news_row (dget hR_ 3 rfl).me (row_none (dget hR_ 3 rfl).me evE_len (by decide))) (fun c21_ sp21_ hall21_ hle21_ hmx21_ => ?_)
     refine rZ 1 ?_
     refine qA (t := 39) (e := 54) (size := 13) (by_ := 120) (i := 9) (n := rd.es.length) (c := c21_) (x := .sl 7 1 1) (enc := evE) (sp := sp21_) true rd.es [(EV.mk (EA.mk n Tq.next d.time (-1) 0 Cq 0 false 0) (PS.mk none 0 []))] (rd.es ++ [(EV.mk (EA.mk n Tq.next d.time (-1) 0 Cq 0 false 0) (PS.mk none 0 []))]) evE_len evE_one rfl hall21_ hle21_ hmx21_ (by simp only [List.length_cons, List.length_nil]; have p0_ := hn; have p1_ := hp; have p2_ := he; omega) rfl (fun γ_ W_ hk_ hB_ => news_own hB_ (b := ⟨true, 54, [.v (.int .i64 n), .v (.int .i64 Tq.next), .v (.int .i64 d.time), .v (.int .i64 (-1)), .v (.int .i64 0), .v (.int .i64 Cq.f0), .v (.int .u64 Cq.f1), .v (.int .u64 Cq.f2), .v (.int .i64 Cq.f3), .v (.int .i64 0), .v (.bool false), .v (.int .u64 0), .v (.slice none 0 0)]⟩) (by kernel_rfl) rfl) (fun c22_ sp22_ hall22_ hle22_ hmx22_ => ?_)
     refine rZ 6 ?_
     refine qG 10 [0] 54 (List.flatMap evE (rd.es ++ [(EV.mk (EA.mk n Tq.next d.time (-1) 0 Cq 0 false 0) (PS.mk none 0 []))]) ++ sp22_) (fun g23_ => ?_)
     refine rZ 3 ?_
     refine qC [.agg (encD (AD.mk ((m18New d.w n Cq).1) d.ts (d.es ++ [(EA.mk n Tq.next d.time (-1) 0 Cq 0 false 0)]) d.time) (DX.mk rx6_ rd.A rd.C rd.l (some ⟨g23_, 0, none⟩) c22_ (rd.es ++ [(EV.mk (EA.mk n Tq.next d.time (-1) 0 Cq 0 false 0) (PS.mk none 0 []))]))).toArray, .int .i64 n, .agg (encT (TR.mk Tq.prog (IntKind.i64.wrap (Tq.next + 1)) Tq.whom 2 Tq.call ((m18New d.w n Cq).2) (rd.es.length : Int)) (TX.mk Xq.pa Xq.pc rx7_)).toArray] fun W_ hT_ hR_ => (k20_thread (AD.mk ((m18New d.w n Cq).1) d.ts (d.es ++ [(EA.mk n Tq.next d.time (-1) 0 Cq 0 false 0)]) d.time) (DX.mk rx6_ rd.A rd.C rd.l (some ⟨g23_, 0, none⟩) c22_ (rd.es ++ [(EV.mk (EA.mk n Tq.next d.time (-1) 0 Cq 0 false 0) (PS.mk none 0 []))])) n (TR.mk Tq.prog (IntKind.i64.wrap (Tq.next + 1)) Tq.whom 2 Tq.call ((m18New d.w n Cq).2) (rd.es.length : Int)) (TX.mk Xq.pa Xq.pc rx7_) (by first | exact hn | omega) _ ⟨(wget hR_ 1 rfl), (dget hR_ 4 rfl).m, (dget hR_ 4 rfl).l, (dget hR_ 4 rfl).n, (dget hR_ 4 rfl).dd, (row_blk (hR_.get 0 rfl)), hle22_, (by (try simp only [List.length_append, List.length_cons, List.length_nil]); have p0_ := hn; have p1_ := hp; have p2_ := he; omega), (edeep_app (dget hR_ 4 rfl).de .nil), (dget hR_ 4 rfl).tm, (by rw [List.map_append, (dget hR_ 4 rfl).em]; rfl)⟩ ⟨(tget hR_ 3 rfl).m, (tget hR_ 3 rfl).l, (tget hR_ 3 rfl).n, (sget hR_ 2 rfl)⟩).mono ?_
     rintro e_ W1_ ⟨rx24_, rfl, hw24_, hf24_, he25_, he26_, hb_⟩
     refine ⟨_, [dRep (m20Thread (AD.mk ((m18New d.w n Cq).1) d.ts (d.es ++ [(EA.mk n Tq.next d.time (-1) 0 Cq 0 false 0)]) d.time) n (TR.mk Tq.prog (IntKind.i64.wrap (Tq.next + 1)) Tq.whom 2 Tq.call ((m18New d.w n Cq).2) (rd.es.length : Int))) rx24_], rfl, hb_, (NewOk.cons hw24_ (hf24_.two (fun k_ => (fun h_ => h_.elim (fun h_ => ⟨_, mG 1 rfl, h_⟩) (fun h_ => h_.elim (fun h_ => ⟨_, mG 4 rfl, (.inr (.inl h_))⟩) (fun h_ => h_.elim (fun h_ => ⟨_, mG 4 rfl, (.inr (.inr (.inl h_)))⟩) (fun h_ => h_.elim (fun h_ => ⟨_, mG 0 rfl, (rowBl_blk h_)⟩) (fun h_ => eDeep_app h_ (fun h_ => ⟨_, mG 4 rfl, (.inr (.inr (.inr (.inr h_))))⟩) rowBl_none)))))) (fun k_ => (fun h_ => h_.elim (fun h_ => ⟨_, mG 3 rfl, (.inl h_)⟩) (fun h_ => ⟨_, mG 2 rfl, h_⟩)))) NewOk.nil), ?_⟩
     refine rZ 2 ?_
     obtain ⟨m_, hq_, hm_⟩ := nm (m20Begin d n)
     unfold m20Begin at hm_
     simp only [← hW.tt, ← hW.tl, ← hW.ell, ← hw24_.tt, ← hw24_.tl, ← hw24_.ell, ← hTq_, ← hCq_, bT h5] at hm_
     refine qR [.agg (encD m_ rx24_).toArray] (fun W1_ hT_ hR_ hF_ => ?_) (h := by rewrite [← hm_]; kernel_rfl)
     rw [hq_, ← hm_]
     exact ⟨_, rfl, (dget hR_ 0 rfl), (fun k_ => (fun h_ => hF_ _ (mG 0 rfl) k_ h_)), (by first | rfl | exact List.length_set | assumption | omega), (fun K_ h_ => he26_ K_ (by have q_ := h_.get n.toNat; rw [← hXq_] at q_; dsimp only; omega) h_), hT_.below⟩
   ·refine rZ 8 ?_
    refine qC [.agg (encW d.w rd.x).toArray, .int .i64 n, .int .i64 Tq.whom, .agg #[.int .i64 Cq.f0, .int .u64 Cq.f1, .int .u64 Cq.f2, .int .i64 Cq.f3]] fun W_ hT_ hR_ => (k16_New _ _ _ _ Cq _ (dget hR_ 1 rfl).w).mono ?_
    rintro e_ W1_ ⟨rx27_, rfl, hw27_, hf27_, hb_⟩
    refine ⟨_, [wRep ((m16New d.w n Tq.whom Cq).1) rx27_], rfl, hb_, (NewOk.cons hw27_ (hf27_.one (fun k_ => (fun h_ => ⟨_, mG 1 rfl, (.inl h_)⟩))) NewOk.nil), ?_⟩
    refine rZ 32 ?_
    refine qV [.int .i64 Tq.whom, .int .i64 ((m16New d.w n Tq.whom Cq).1).c.f0] (fun W_ hT_ hR_ => c15_Next Tq.whom ((m16New d.w n Tq.whom Cq).1).c.f0 _) ?_
    refine rZ 4 ?_
    refine qD k20_begin.T16 [0, 0, 2, 7, 0, 16, 63, 127, 255] [8] [0, 4] [] ?_
    refine rO [1, 2, 4] ?_
    refine rZ 3 ?_
    refine qF 0 5 ?_ ?_
    ·refine rO [] ?_
     refine rZ 1 ?_
     refine qF 3 5 ?_ ?_
     ·refine rO [5, 6, 7, 8] ?_
      refine rK (p := rd.es.length ≤ 1000000) (fun W_ hR_ => (dget hR_ 2 rfl).ne) (fun hs28_ => ?_)
      refine qA (t := 39) (e := 54) (size := 13) (by_ := 120) (i := 7) (n := 0) (c := 0) (x := .v (.slice rd.eA rd.es.length rd.eC)) (enc := evE) (sp := []) true [] rd.es rd.es evE_len evE_one rfl (by rfl) (Nat.le_refl _) (Nat.zero_le _) (by simp only [List.length_nil]; omega) rfl (fun γ_ W_ hk_ hB_ => by have hR_ : RepAt _ W_ := hB_.rep; exact news_row (dget hR_ 2 rfl).me (row_none (dget hR_ 2 rfl).me evE_len (by decide))) (fun c28_ sp28_ hall28_ hle28_ hmx28_ => ?_)
      refine rZ 3 ?_
      refine qA (t := 39) (e := 54) (size := 13) (by_ := 120) (i := 8) (n := rd.es.length) (c := c28_) (x := .sl 9 1 1) (enc := evE) (sp := sp28_) true rd.es [(EV.mk (EA.mk n Tq.next d.time (-1) 0 Cq 0 false 0) (PS.mk none 0 []))] (rd.es ++ [(EV.mk (EA.mk n Tq.next d.time (-1) 0 Cq 0 false 0) (PS.mk none 0 []))]) evE_len evE_one rfl hall28_ hle28_ hmx28_ (by simp only [List.length_cons, List.length_nil]; have b0_ := beq_ne h5; have p0_ := hn; have p1_ := hp; have p2_ := he; omega) rfl (fun γ_ W_ hk_ hB_ => news_own hB_ (b := ⟨true, 54, [.v (.int .i64 n), .v (.int .i64 Tq.next), .v (.int .i64 d.time), .v (.int .i64 (-1)), .v (.int .i64 0), .v (.int .i64 Cq.f0), .v (.int .u64 Cq.f1), .v (.int .u64 Cq.f2), .v (.int .i64 Cq.f3), .v (.int .i64 0), .v (.bool false), .v (.int .u64 0), .v (.slice none 0 0)]⟩) (by kernel_rfl) rfl) (fun c29_ sp29_ hall29_ hle29_ hmx29_ => ?_)
      refine rZ 6 ?_
      refine qG 10 [0] 54 (List.flatMap evE (rd.es ++ [(EV.mk (EA.mk n Tq.next d.time (-1) 0 Cq 0 false 0) (PS.mk none 0 []))]) ++ sp29_) (fun g30_ => ?_)
      refine rZ 3 ?_
      refine qC [.agg (encD (AD.mk ((m16New d.w n Tq.whom Cq).1) d.ts (d.es ++ [(EA.mk n Tq.next d.time (-1) 0 Cq 0 false 0)]) d.time) (DX.mk rx27_ rd.A rd.C rd.l (some ⟨g30_, 0, none⟩) c29_ (rd.es ++ [(EV.mk (EA.mk n Tq.next d.time (-1) 0 Cq 0 false 0) (PS.mk none 0 []))]))).toArray, .int .i64 n, .agg (encT (TR.mk Tq.prog (IntKind.i64.wrap (Tq.next + 1)) (pNx Tq.whom ((m16New d.w n Tq.whom Cq).1).c.f0) 1 ((m16New d.w n Tq.whom Cq).2) Tq.scan (rd.es.length : Int)) (TX.mk Xq.pa Xq.pc Xq.sx)).toArray] fun W_ hT_ hR_ => (k20_thread (AD.mk ((m16New d.w n Tq.whom Cq).1) d.ts (d.es ++ [(EA.mk n Tq.next d.time (-1) 0 Cq 0 false 0)]) d.time) (DX.mk rx27_ rd.A rd.C rd.l (some ⟨g30_, 0, none⟩) c29_ (rd.es ++ [(EV.mk (EA.mk n Tq.next d.time (-1) 0 Cq 0 false 0) (PS.mk none 0 []))])) n (TR.mk Tq.prog (IntKind.i64.wrap (Tq.next + 1)) (pNx Tq.whom ((m16New d.w n Tq.whom Cq).1).c.f0) 1 ((m16New d.w n Tq.whom Cq).2) Tq.scan (rd.es.length : Int)) (TX.mk Xq.pa Xq.pc Xq.sx) (by first | exact hn | omega) _ ⟨(wget hR_ 1 rfl), (dget hR_ 3 rfl).m, (dget hR_ 3 rfl).l, (dget hR_ 3 rfl).n, (dget hR_ 3 rfl).dd, (row_blk (hR_.get 0 rfl)), hle29_, (by (try simp only [List.length_append, List.length_cons, List.length_nil]); have b0_ := beq_ne h5; have p0_ := hn; have p1_ := hp; have p2_ := he; omega), (edeep_app (dget hR_ 3 rfl).de .nil), (dget hR_ 3 rfl).tm, (by rw [List.map_append, (dget hR_ 3 rfl).em]; rfl)⟩ ⟨(tget hR_ 2 rfl).m, (tget hR_ 2 rfl).l, (tget hR_ 2 rfl).n, (tget hR_ 2 rfl).s⟩).mono ?_
      rintro e_ W1_ ⟨rx31_, rfl, hw31_, hf31_, he32_, he33_, hb_⟩
      refine ⟨_, [dRep (m20Thread (AD.mk ((m16New d.w n Tq.whom Cq).1) d.ts (d.es ++ [(EA.mk n Tq.next d.time (-1) 0 Cq 0 false 0)]) d.time) n (TR.mk Tq.prog (IntKind.i64.wrap (Tq.next + 1)) (pNx Tq.whom ((m16New d.w n Tq.whom Cq).1).c.f0) 1 ((m16New d.w n Tq.whom Cq).2) Tq.scan (rd.es.length : Int))) rx31_], rfl, hb_, (NewOk.cons hw31_ (hf31_.two (fun k_ => (fun h_ => h_.elim (fun h_ => ⟨_, mG 1 rfl, h_⟩) (fun h_ => h_.elim (fun h_ => ⟨_, mG 3 rfl, (.inr (.inl h_))⟩) (fun h_ => h_.elim (fun h_ => ⟨_, mG 3 rfl, (.inr (.inr (.inl h_)))⟩) (fun h_ => h_.elim (fun h_ => ⟨_, mG 0 rfl, (rowBl_blk h_)⟩) (fun h_ => eDeep_app h_ (fun h_ => ⟨_, mG 3 rfl, (.inr (.inr (.inr (.inr h_))))⟩) rowBl_none)))))) (fun k_ => (fun h_ => h_.elim (fun h_ => ⟨_, mG 2 rfl, (.inl h_)⟩) (fun h_ => ⟨_, mG 2 rfl, (.inr h_)⟩)))) NewOk.nil), ?_⟩
      refine rZ 2 ?_
      obtain ⟨m_, hq_, hm_⟩ := nm (m20Begin d n)
      unfold m20Begin at hm_
      simp only [← hW.tt, ← hW.tl, ← hW.ell, ← hw31_.tt, ← hw31_.tl, ← hw31_.ell, ← hTq_, ← hCq_, bF h5] at hm_
      refine qR [.agg (encD m_ rx31_).toArray] (fun W1_ hT_ hR_ hF_ => ?_) (h := by rewrite [← hm_]; kernel_rfl)
      rw [hq_, ← hm_]
      exact ⟨_, rfl, (dget hR_ 0 rfl), (fun k_ => (fun h_ => hF_ _ (mG 0 rfl) k_ h_)), (by first | rfl | exact List.length_set | assumption | omega), (fun K_ h_ => he33_ K_ (by have q_ := h_.get n.toNat; rw [← hXq_] at q_; dsimp only; omega) h_), hT_.below⟩
     ·refine rO [3, 6, 7, 8] ?_
      refine rZ 2 ?_
      refine rK (p := rd.es.length ≤ 1000000) (fun W_ hR_ => (dget hR_ 2 rfl).ne) (fun hs34_ => ?_)
      refine qA (t := 39) (e := 54) (size := 13) (by_ := 120) (i := 7) (n := 0) (c := 0) (x := .v (.slice rd.eA rd.es.length rd.eC)) (enc := evE) (sp := []) true [] rd.es rd.es evE_len evE_one rfl (by rfl) (Nat.le_refl _) (Nat.zero_le _) (by simp only [List.length_nil]; omega) rfl (fun γ_ W_ hk_ hB_ => by have hR_ : RepAt _ W_ := hB_.rep; exact news_row (dget hR_ 2 rfl).me (row_none (dget hR_ 2 rfl).me evE_len (by decide))) (fun c34_ sp34_ hall34_ hle34_ hmx34_ => ?_)
      refine rZ 1 ?_
      refine qA (t := 39) (e := 54) (size := 13) (by_ := 120) (i := 9) (n := rd.es.length) (c := c34_) (x := .sl 8 1 1) (enc := evE) (sp := sp34_) true rd.es [(EV.mk (EA.mk n Tq.next d.time (-1) 0 Cq 0 false 0) (PS.mk none 0 []))] (rd.es ++ [(EV.mk (EA.mk n Tq.next d.time (-1) 0 Cq 0 false 0) (PS.mk none 0 []))]) evE_len evE_one rfl hall34_ hle34_ hmx34_ (by simp only [List.length_cons, List.length_nil]; have b0_ := beq_ne h5; have p0_ := hn; have p1_ := hp; have p2_ := he; omega) rfl (fun γ_ W_ hk_ hB_ => news_own hB_ (b := ⟨true, 54, [.v (.int .i64 n), .v (.int .i64 Tq.next), .v (.int .i64 d.time), .v (.int .i64 (-1)), .v (.int .i64 0), .v (.int .i64 Cq.f0), .v (.int .u64 Cq.f1), .v (.int .u64 Cq.f2), .v (.int .i64 Cq.f3), .v (.int .i64 0), .v (.bool false), .v (.int .u64 0), .v (.slice none 0 0)]⟩) (by kernel_rfl) rfl) (fun c35_ sp35_ hall35_ hle35_ hmx35_ => ?_)
      refine rZ 6 ?_
      refine qG 10 [0] 54 (List.flatMap evE (rd.es ++ [(EV.mk (EA.mk n Tq.next d.time (-1) 0 Cq 0 false 0) (PS.mk none 0 []))]) ++ sp35_) (fun g36_ => ?_)
      refine rZ 3 ?_
      refine qC [.agg (encD (AD.mk ((m16New d.w n Tq.whom Cq).1) d.ts (d.es ++ [(EA.mk n Tq.next d.time (-1) 0 Cq 0 false 0)]) d.time) (DX.mk rx27_ rd.A rd.C rd.l (some ⟨g36_, 0, none⟩) c35_ (rd.es ++ [(EV.mk (EA.mk n Tq.next d.time (-1) 0 Cq 0 false 0) (PS.mk none 0 []))]))).toArray, .int .i64 n, .agg (encT (TR.mk Tq.prog (IntKind.i64.wrap (Tq.next + 1)) (pNx Tq.whom ((m16New d.w n Tq.whom Cq).1).c.f0) 1 ((m16New d.w n Tq.whom Cq).2) Tq.scan (rd.es.length : Int)) (TX.mk Xq.pa Xq.pc Xq.sx)).toArray] fun W_ hT_ hR_ => (k20_thread (AD.mk ((m16New d.w n Tq.whom Cq).1) d.ts (d.es ++ [(EA.mk n Tq.next d.time (-1) 0 Cq 0 false 0)]) d.time) (DX.mk rx27_ rd.A rd.C rd.l (some ⟨g36_, 0, none⟩) c35_ (rd.es ++ [(EV.mk (EA.mk n Tq.next d.time (-1) 0 Cq 0 false 0) (PS.mk none 0 []))])) n (TR.mk Tq.prog (IntKind.i64.wrap (Tq.next + 1)) (pNx Tq.whom ((m16New d.w n Tq.whom Cq).1).c.f0) 1 ((m16New d.w n Tq.whom Cq).2) Tq.scan (rd.es.length : Int)) (TX.mk Xq.pa Xq.pc Xq.sx) (by first | exact hn | omega) _ ⟨(wget hR_ 1 rfl), (dget hR_ 3 rfl).m, (dget hR_ 3 rfl).l, (dget hR_ 3 rfl).n, (dget hR_ 3 rfl).dd, (row_blk (hR_.get 0 rfl)), hle35_, (by (try simp only [List.length_append, List.length_cons, List.length_nil]); have b0_ := beq_ne h5; have p0_ := hn; have p1_ := hp; have p2_ := he; omega), (edeep_app (dget hR_ 3 rfl).de .nil), (dget hR_ 3 rfl).tm, (by rw [List.map_append, (dget hR_ 3 rfl).em]; rfl)⟩ ⟨(tget hR_ 2 rfl).m, (tget hR_ 2 rfl).l, (tget hR_ 2 rfl).n, (tget hR_ 2 rfl).s⟩).mono ?_
      rintro e_ W1_ ⟨rx37_, rfl, hw37_, hf37_, he38_, he39_, hb_⟩
      refine ⟨_, [dRep (m20Thread (AD.mk ((m16New d.w n Tq.whom Cq).1) d.ts (d.es ++ [(EA.mk n Tq.next d.time (-1) 0 Cq 0 false 0)]) d.time) n (TR.mk Tq.prog (IntKind.i64.wrap (Tq.next + 1)) (pNx Tq.whom ((m16New d.w n Tq.whom Cq).1).c.f0) 1 ((m16New d.w n Tq.whom Cq).2) Tq.scan (rd.es.length : Int))) rx37_], rfl, hb_, (NewOk.cons hw37_ (hf37_.two (fun k_ => (fun h_ => h_.elim (fun h_ => ⟨_, mG 1 rfl, h_⟩) (fun h_ => h_.elim (fun h_ => ⟨_, mG 3 rfl, (.inr (.inl h_))⟩) (fun h_ => h_.elim (fun h_ => ⟨_, mG 3 rfl, (.inr (.inr (.inl h_)))⟩) (fun h_ => h_.elim (fun h_ => ⟨_, mG 0 rfl, (rowBl_blk h_)⟩) (fun h_ => eDeep_app h_ (fun h_ => ⟨_, mG 3 rfl, (.inr (.inr (.inr (.inr h_))))⟩) rowBl_none)))))) (fun k_ => (fun h_ => h_.elim (fun h_ => ⟨_, mG 2 rfl, (.inl h_)⟩) (fun h_ => ⟨_, mG 2 rfl, (.inr h_)⟩)))) NewOk.nil), ?_⟩
      refine rZ 2 ?_
      obtain ⟨m_, hq_, hm_⟩ := nm (m20Begin d n)
      unfold m20Begin at hm_
      simp only [← hW.tt, ← hW.tl, ← hW.ell, ← hw37_.tt, ← hw37_.tl, ← hw37_.ell, ← hTq_, ← hCq_, bF h5] at hm_
      refine qR [.agg (encD m_ rx37_).toArray] (fun W1_ hT_ hR_ hF_ => ?_) (h := by rewrite [← hm_]; kernel_rfl)
      rw [hq_, ← hm_]
      exact ⟨_, rfl, (dget hR_ 0 rfl), (fun k_ => (fun h_ => hF_ _ (mG 0 rfl) k_ h_)), (by first | rfl | exact List.length_set | assumption | omega), (fun K_ h_ => he39_ K_ (by have q_ := h_.get n.toNat; rw [← hXq_] at q_; dsimp only; omega) h_), hT_.below⟩
    ·refine rO [0, 3, 6, 7, 8] ?_
     refine rZ 4 ?_
     refine rK (p := rd.es.length ≤ 1000000) (fun W_ hR_ => (dget hR_ 2 rfl).ne) (fun hs40_ => ?_)
     refine qA (t := 39) (e := 54) (size := 13) (by_ := 120) (i := 8) (n := 0) (c := 0) (x := .v (.slice rd.eA rd.es.length rd.eC)) (enc := evE) (sp := []) true [] rd.es rd.es evE_len evE_one rfl (by rfl) (Nat.le_refl _) (Nat.zero_le _) (by simp only [List.length_nil]; omega) rfl (fun γ_ W_ hk_ hB_ => by have hR_ : RepAt _ W_ := hB_.rep; exact news_row (dget hR_ 2 rfl).me (row_none (dget hR_ 2 rfl).me evE_len (by decide))) (fun c40_ sp40_ hall40_ hle40_ hmx40_ => ?_)
     refine rZ 1 ?_
     refine qA (t := 39) (e := 54) (size := 13) (by_ := 120) (i := 9) (n := rd.es.length) (c := c40_) (x := .sl 7 1 1) (enc := evE) (sp := sp40_) true rd.es [(EV.mk (EA.mk n Tq.next d.time (-1) 0 Cq 0 false 0) (PS.mk none 0 []))] (rd.es ++ [(EV.mk (EA.mk n Tq.next d.time (-1) 0 Cq 0 false 0) (PS.mk none 0 []))]) evE_len evE_one rfl hall40_ hle40_ hmx40_ (by simp only [List.length_cons, List.length_nil]; have b0_ := beq_ne h5; have p0_ := hn; have p1_ := hp; have p2_ := he; omega) rfl (fun γ_ W_ hk_ hB_ => news_own hB_ (b := ⟨true, 54, [.v (.int .i64 n), .v (.int .i64 Tq.next), .v (.int .i64 d.time), .v (.int .i64 (-1)), .v (.int .i64 0), .v (.int .i64 Cq.f0), .v (.int .u64 Cq.f1), .v (.int .u64 Cq.f2), .v (.int .i64 Cq.f3), .v (.int .i64 0), .v (.bool false), .v (.int .u64 0), .v (.slice none 0 0)]⟩) (by kernel_rfl) rfl) (fun c41_ sp41_ hall41_ hle41_ hmx41_ => ?_)
     refine rZ 6 ?_
     refine qG 10 [0] 54 (List.flatMap evE (rd.es ++ [(EV.mk (EA.mk n Tq.next d.time (-1) 0 Cq 0 false 0) (PS.mk none 0 []))]) ++ sp41_) (fun g42_ => ?_)
     refine rZ 3 ?_
     refine qC [.agg (encD (AD.mk ((m16New d.w n Tq.whom Cq).1) d.ts (d.es ++ [(EA.mk n Tq.next d.time (-1) 0 Cq 0 false 0)]) d.time) (DX.mk rx27_ rd.A rd.C rd.l (some ⟨g42_, 0, none⟩) c41_ (rd.es ++ [(EV.mk (EA.mk n Tq.next d.time (-1) 0 Cq 0 false 0) (PS.mk none 0 []))]))).toArray, .int .i64 n, .agg (encT (TR.mk Tq.prog (IntKind.i64.wrap (Tq.next + 1)) (pNx Tq.whom ((m16New d.w n Tq.whom Cq).1).c.f0) 1 ((m16New d.w n Tq.whom Cq).2) Tq.scan (rd.es.length : Int)) (TX.mk Xq.pa Xq.pc Xq.sx)).toArray] fun W_ hT_ hR_ => (k20_thread (AD.mk ((m16New d.w n Tq.whom Cq).1) d.ts (d.es ++ [(EA.mk n Tq.next d.time (-1) 0 Cq 0 false 0)]) d.time) (DX.mk rx27_ rd.A rd.C rd.l (some ⟨g42_, 0, none⟩) c41_ (rd.es ++ [(EV.mk (EA.mk n Tq.next d.time (-1) 0 Cq 0 false 0) (PS.mk none 0 []))])) n (TR.mk Tq.prog (IntKind.i64.wrap (Tq.next + 1)) (pNx Tq.whom ((m16New d.w n Tq.whom Cq).1).c.f0) 1 ((m16New d.w n Tq.whom Cq).2) Tq.scan (rd.es.length : Int)) (TX.mk Xq.pa Xq.pc Xq.sx) (by first | exact hn | omega) _ ⟨(wget hR_ 1 rfl), (dget hR_ 3 rfl).m, (dget hR_ 3 rfl).l, (dget hR_ 3 rfl).n, (dget hR_ 3 rfl).dd, (row_blk (hR_.get 0 rfl)), hle41_, (by (try simp only [List.length_append, List.length_cons, List.length_nil]); have b0_ := beq_ne h5; have p0_ := hn; have p1_ := hp; have p2_ := he; omega), (edeep_app (dget hR_ 3 rfl).de .nil), (dget hR_ 3 rfl).tm, (by rw [List.map_append, (dget hR_ 3 rfl).em]; rfl)⟩ ⟨(tget hR_ 2 rfl).m, (tget hR_ 2 rfl).l, (tget hR_ 2 rfl).n, (tget hR_ 2 rfl).s⟩).mono ?_
     rintro e_ W1_ ⟨rx43_, rfl, hw43_, hf43_, he44_, he45_, hb_⟩
     refine ⟨_, [dRep (m20Thread (AD.mk ((m16New d.w n Tq.whom Cq).1) d.ts (d.es ++ [(EA.mk n Tq.next d.time (-1) 0 Cq 0 false 0)]) d.time) n (TR.mk Tq.prog (IntKind.i64.wrap (Tq.next + 1)) (pNx Tq.whom ((m16New d.w n Tq.whom Cq).1).c.f0) 1 ((m16New d.w n Tq.whom Cq).2) Tq.scan (rd.es.length : Int))) rx43_], rfl, hb_, (NewOk.cons hw43_ (hf43_.two (fun k_ => (fun h_ => h_.elim (fun h_ => ⟨_, mG 1 rfl, h_⟩) (fun h_ => h_.elim (fun h_ => ⟨_, mG 3 rfl, (.inr (.inl h_))⟩) (fun h_ => h_.elim (fun h_ => ⟨_, mG 3 rfl, (.inr (.inr (.inl h_)))⟩) (fun h_ => h_.elim (fun h_ => ⟨_, mG 0 rfl, (rowBl_blk h_)⟩) (fun h_ => eDeep_app h_ (fun h_ => ⟨_, mG 3 rfl, (.inr (.inr (.inr (.inr h_))))⟩) rowBl_none)))))) (fun k_ => (fun h_ => h_.elim (fun h_ => ⟨_, mG 2 rfl, (.inl h_)⟩) (fun h_ => ⟨_, mG 2 rfl, (.inr h_)⟩)))) NewOk.nil), ?_⟩
     refine rZ 2 ?_
     obtain ⟨m_, hq_, hm_⟩ := nm (m20Begin d n)
     unfold m20Begin at hm_
     simp only [← hW.tt, ← hW.tl, ← hW.ell, ← hw43_.tt, ← hw43_.tl, ← hw43_.ell, ← hTq_, ← hCq_, bF h5] at hm_
     refine qR [.agg (encD m_ rx43_).toArray] (fun W1_ hT_ hR_ hF_ => ?_) (h := by rewrite [← hm_]; kernel_rfl)
     rw [hq_, ← hm_]
     exact ⟨_, rfl, (dget hR_ 0 rfl), (fun k_ => (fun h_ => hF_ _ (mG 0 rfl) k_ h_)), (by first | rfl | exact List.length_set | assumption | omega), (fun K_ h_ => he45_ K_ (by have q_ := h_.get n.toNat; rw [← hXq_] at q_; dsimp only; omega) h_), hT_.below⟩
end Go.Proofs.Ytbhakljebcmocaa.PBoundKeeps
end
section
namespace Go.Proofs.Ytbhakljebcmocaa.PBoundKeeps
open Go.RowKit Go.Proofs.YtbhakljebcmocaaW.PrintWords Go.Proofs.YtbhakljebcmocaaW.PrintLast Go.Proofs.YtbhakljebcmocaaW.PrintMore
set_option linter.unusedVariables false
set_option maxHeartbeats 1000000
set_option maxRecDepth 100000
set_option linter.unusedSimpArgs false
def m06New (n : Int) : RM := (bif (decide (n < 0)) then (RM.mk [] 0) else (bif (decide (n > 1048576)) then (RM.mk [] 0) else (RM.mk (List.replicate n.toNat 0) 0)))
theorem k06_New (n : Int) (hn : n ≤ 1000000) (W : World) : Calls Try.prog 31 #[.int .i64 n] W (fun e W' => ∃ r0 : MX, e = .returned (.agg (encM (m06New n) r0).toArray) ∧ MAt W' (m06New n) r0 ∧ FreshIn [] W (mRep (m06New n) r0) ∧ Below W.heap.size W W') := by
 refine rf_enter (args := [.int .i64 n]) [] Try.func31 rfl (by simp) ?_
 refine rX 10 ?_
 refine qS 5 (decide (n < 0)) (fun h1 => ?_) (fun h1 => ?_)
 ·refine rZ 10 ?_
  obtain ⟨m_, hq_, hm_⟩ := nm (m06New n)
  unfold m06New at hm_
  simp only [bT h1] at hm_
  refine qR [.agg (encM m_ (MX.mk none 0)).toArray] (fun W1_ hT_ hR_ hF_ => ?_) (h := by rewrite [← hm_]; kernel_rfl)
  rw [hq_, ← hm_]
  exact ⟨_, rfl, ⟨row_nil, (Nat.le_refl _), (Nat.zero_le _)⟩, (fun k_ => rowBl_none), hT_.below⟩
 ·refine rZ 4 ?_
  refine qI (decide (n > 1048576)) (fun h2 => ?_) (fun h2 => ?_)
  ·refine rZ 5 ?_
   obtain ⟨m_, hq_, hm_⟩ := nm (m06New n)
   unfold m06New at hm_
   simp only [bF h1, bT h2] at hm_
   refine qR [.agg (encM m_ (MX.mk none 0)).toArray] (fun W1_ hT_ hR_ hF_ => ?_) (h := by rewrite [← hm_]; kernel_rfl)
   rw [hq_, ← hm_]
   exact ⟨_, rfl, ⟨row_nil, (Nat.le_refl _), (Nat.zero_le _)⟩, (fun k_ => rowBl_none), hT_.below⟩
  ·refine rZ 4 ?_
   refine qM (t := 29) (e := 46) (size := 1) (by_ := 8) (k := .i64) (k' := .i64) (n := n) (enc := uE) true 0 [.int .u64 0] (by have b0_ := oF h1; have b1_ := oF h2; have p0_ := hn; omega) (by have b0_ := oF h1; have b1_ := oF h2; have p0_ := hn; omega) ?_
   refine qG 1 [] 46 (List.flatMap uE (List.replicate n.toNat 0) ++ []) (fun g4_ => ?_)
   refine rZ 3 ?_
   obtain ⟨m_, hq_, hm_⟩ := nm (m06New n)
   unfold m06New at hm_
   simp only [bF h1, bF h2] at hm_
   refine qR [.agg (encM m_ (MX.mk (some ⟨g4_, 0, none⟩) n.toNat)).toArray] (fun W1_ hT_ hR_ hF_ => ?_) (h := by rewrite [← hm_]; kernel_rfl)
   rw [hq_, ← hm_]
   exact ⟨_, rfl, ⟨(row_blk (hR_.get 0 rfl)), (Nat.le_of_eq List.length_replicate), (by rw [List.length_replicate]; exact (by have b_ : n ≤ 1000000 := (by have b0_ := oF h1; have b1_ := oF h2; have p0_ := hn; omega); omega))⟩, (fun k_ => (fun h_ => hF_ _ (mG 0 rfl) k_ (rowBl_blk h_))), hT_.below⟩
def k07_New.T3 : Bool × List (List Nat × List Nat) := (true, [([], []), ([], []), ([1], [1]), ([2, 2], [2]), ([], []), ([4], [4]), ([5, 5], [5]), ([], []), ([7], [7]), ([8, 8], [8]), ([0, 3, 6, 9], [0, 3, 6, 9]), ([10, 0, 1, 2, 3, 4, 5, 6, 7, 8, 9, 10], [10]), ([11, 0, 1, 2, 3, 4, 5, 6, 7, 8, 9, 10, 11], [])])
def m07New (c : S23) : RB × Int := ((RB.mk c (List.replicate c.f0.toNat 0) (List.replicate c.f0.toNat 0) (List.replicate c.f0.toNat 0) [] []), 0)
theorem k07_New (c : S23) (hO : OkC c) (W : World) : Calls Try.prog 30 #[.agg (encC c).toArray] W (fun e W' => ∃ r0 : RA, e = .returned (.tuple #[.agg (encB ((m07New c).1) r0).toArray, .int .i64 (m07New c).2]) ∧ BAt W' (m07New c).1 r0 ∧ FreshIn [] W (bRep (m07New c).1 r0) ∧ Below W.heap.size W W') := by
 refine rf_enter (args := [.agg (encC c).toArray]) [] Try.func30 rfl (by simp) ?_
 refine rX 10 ?_
 refine qV [.agg (encC c).toArray] (fun W_ hT_ hR_ => c04_May c _) ?_
 refine rZ 2 ?_
 refine qI ((lMay c) != 0) (fun hx_ => by rw [(may_ok hO)] at hx_; cases hx_) (fun hx_ => ?_)
 clear hx_
 refine rZ 2 ?_
 refine qD k07_New.T3 [0, 0, 2, 6, 0, 16, 48, 0, 128, 384, 1023, 2047, 4095] [] [0] [] ?_
 refine rO [0, 1, 2, 4, 5, 7, 8] ?_
 refine rZ 7 ?_
 refine qE 3 6 9 ?_ ?_ ?_
 ·refine rO [] ?_
  refine qM (t := 25) (e := 3) (size := 1) (by_ := 8) (k := .i64) (k' := .i64) (n := c.f0) (enc := iE) true 0 [.int .i64 0] (by have p0_ := hO.1.1; have p1_ := hO.1.2; omega) (by have p0_ := hO.1.1; have p1_ := hO.1.2; omega) ?_
  refine qF 6 9 ?_ ?_
  ·refine rO [9, 10, 11, 12] ?_
   refine qM (t := 25) (e := 3) (size := 1) (by_ := 8) (k := .i64) (k' := .i64) (n := c.f0) (enc := iE) true 0 [.int .i64 0] (by have p0_ := hO.1.1; have p1_ := hO.1.2; omega) (by have p0_ := hO.1.1; have p1_ := hO.1.2; omega) ?_
   refine rZ 1 ?_
   refine qM (t := 25) (e := 3) (size := 1) (by_ := 8) (k := .i64) (k' := .i64) (n := c.f0) (enc := iE) true 0 [.int .i64 0] (by have p0_ := hO.1.1; have p1_ := hO.1.2; omega) (by have p0_ := hO.1.1; have p1_ := hO.1.2; omega) ?_
   refine qG 2 [] 3 (List.flatMap iE (List.replicate c.f0.toNat 0) ++ []) (fun g5_ => ?_)
   refine qG 3 [] 3 (List.flatMap iE (List.replicate c.f0.toNat 0) ++ []) (fun g6_ => ?_)
   refine qG 4 [] 3 (List.flatMap iE (List.replicate c.f0.toNat 0) ++ []) (fun g7_ => ?_)
   refine rZ 5 ?_
   obtain ⟨m_, hq_, hm_⟩ := nm (m07New c)
   have h0_ := hm_
   unfold m07New at hm_
   refine qR [.agg (encB m_.1 (RA.mk (some ⟨g5_, 0, none⟩) (some ⟨g6_, 0, none⟩) (some ⟨g7_, 0, none⟩) none none c.f0.toNat c.f0.toNat c.f0.toNat 0 0)).toArray, .int .i64 m_.2] (fun W1_ hT_ hR_ hF_ => ?_) (h := by rewrite [← hm_]; kernel_rfl)
   rw [hq_, ← hm_]
   exact ⟨_, rfl, ⟨(row_blk (hR_.get 2 rfl)), (row_blk (hR_.get 1 rfl)), (row_blk (hR_.get 0 rfl)), row_nil, row_nil, (Nat.le_of_eq List.length_replicate), (Nat.le_of_eq List.length_replicate), (Nat.le_of_eq List.length_replicate), (Nat.le_refl _), (Nat.le_refl _), (Inv.new c hO)⟩, (fun k_ => (fun h_ => h_.elim (fun h_ => hF_ _ (mG 2 rfl) k_ (rowBl_blk h_)) (fun h_ => h_.elim (fun h_ => hF_ _ (mG 1 rfl) k_ (rowBl_blk h_)) (fun h_ => h_.elim (fun h_ => hF_ _ (mG 0 rfl) k_ (rowBl_blk h_)) (fun h_ => h_.elim rowBl_none rowBl_none))))), hT_.below⟩
  ·refine rO [6, 10, 11, 12] ?_
   refine qM (t := 25) (e := 3) (size := 1) (by_ := 8) (k := .i64) (k' := .i64) (n := c.f0) (enc := iE) true 0 [.int .i64 0] (by have p0_ := hO.1.1; have p1_ := hO.1.2; omega) (by have p0_ := hO.1.1; have p1_ := hO.1.2; omega) ?_
   refine rZ 1 ?_
   refine qM (t := 25) (e := 3) (size := 1) (by_ := 8) (k := .i64) (k' := .i64) (n := c.f0) (enc := iE) true 0 [.int .i64 0] (by have p0_ := hO.1.1; have p1_ := hO.1.2; omega) (by have p0_ := hO.1.1; have p1_ := hO.1.2; omega) ?_
   refine qG 2 [] 3 (List.flatMap iE (List.replicate c.f0.toNat 0) ++ []) (fun g10_ => ?_)
   refine qG 4 [] 3 (List.flatMap iE (List.replicate c.f0.toNat 0) ++ []) (fun g11_ => ?_)
   refine qG 3 [] 3 (List.flatMap iE (List.replicate c.f0.toNat 0) ++ []) (fun g12_ => ?_)
   refine rZ 5 ?_
   obtain ⟨m_, hq_, hm_⟩ := nm (m07New c)
   have h0_ := hm_
   unfold m07New at hm_
   refine qR [.agg (encB m_.1 (RA.mk (some ⟨g10_, 0, none⟩) (some ⟨g11_, 0, none⟩) (some ⟨g12_, 0, none⟩) none none c.f0.toNat c.f0.toNat c.f0.toNat 0 0)).toArray, .int .i64 m_.2] (fun W1_ hT_ hR_ hF_ => ?_) (h := by rewrite [← hm_]; kernel_rfl)
   rw [hq_, ← hm_]
   exact ⟨_, rfl, ⟨(row_blk (hR_.get 2 rfl)), (row_blk (hR_.get 1 rfl)), (row_blk (hR_.get 0 rfl)), row_nil, row_nil, (Nat.le_of_eq List.length_replicate), (Nat.le_of_eq List.length_replicate), (Nat.le_of_eq List.length_replicate), (Nat.le_refl _), (Nat.le_refl _), (Inv.new c hO)⟩, (fun k_ => (fun h_ => h_.elim (fun h_ => hF_ _ (mG 2 rfl) k_ (rowBl_blk h_)) (fun h_ => h_.elim (fun h_ => hF_ _ (mG 1 rfl) k_ (rowBl_blk h_)) (fun h_ => h_.elim (fun h_ => hF_ _ (mG 0 rfl) k_ (rowBl_blk h_)) (fun h_ => h_.elim rowBl_none rowBl_none))))), hT_.below⟩
 ·refine rO [] ?_
  refine qM (t := 25) (e := 3) (size := 1) (by_ := 8) (k := .i64) (k' := .i64) (n := c.f0) (enc := iE) true 0 [.int .i64 0] (by have p0_ := hO.1.1; have p1_ := hO.1.2; omega) (by have p0_ := hO.1.1; have p1_ := hO.1.2; omega) ?_
  refine qF 3 9 ?_ ?_
  ·refine rO [9, 10, 11, 12] ?_
   refine qM (t := 25) (e := 3) (size := 1) (by_ := 8) (k := .i64) (k' := .i64) (n := c.f0) (enc := iE) true 0 [.int .i64 0] (by have p0_ := hO.1.1; have p1_ := hO.1.2; omega) (by have p0_ := hO.1.1; have p1_ := hO.1.2; omega) ?_
   refine rZ 1 ?_
   refine qM (t := 25) (e := 3) (size := 1) (by_ := 8) (k := .i64) (k' := .i64) (n := c.f0) (enc := iE) true 0 [.int .i64 0] (by have p0_ := hO.1.1; have p1_ := hO.1.2; omega) (by have p0_ := hO.1.1; have p1_ := hO.1.2; omega) ?_
   refine qG 3 [] 3 (List.flatMap iE (List.replicate c.f0.toNat 0) ++ []) (fun g16_ => ?_)
   refine qG 2 [] 3 (List.flatMap iE (List.replicate c.f0.toNat 0) ++ []) (fun g17_ => ?_)
   refine qG 4 [] 3 (List.flatMap iE (List.replicate c.f0.toNat 0) ++ []) (fun g18_ => ?_)
   refine rZ 5 ?_
   obtain ⟨m_, hq_, hm_⟩ := nm (m07New c)
   have h0_ := hm_
   unfold m07New at hm_
   refine qR [.agg (encB m_.1 (RA.mk (some ⟨g16_, 0, none⟩) (some ⟨g17_, 0, none⟩) (some ⟨g18_, 0, none⟩) none none c.f0.toNat c.f0.toNat c.f0.toNat 0 0)).toArray, .int .i64 m_.2] (fun W1_ hT_ hR_ hF_ => ?_) (h := by rewrite [← hm_]; kernel_rfl)
   rw [hq_, ← hm_]
   exact ⟨_, rfl, ⟨(row_blk (hR_.get 2 rfl)), (row_blk (hR_.get 1 rfl)), (row_blk (hR_.get 0 rfl)), row_nil, row_nil, (Nat.le_of_eq List.length_replicate), (Nat.le_of_eq List.length_replicate), (Nat.le_of_eq List.length_replicate), (Nat.le_refl _), (Nat.le_refl _), (Inv.new c hO)⟩, (fun k_ => (fun h_ => h_.elim (fun h_ => hF_ _ (mG 2 rfl) k_ (rowBl_blk h_)) (fun h_ => h_.elim (fun h_ => hF_ _ (mG 1 rfl) k_ (rowBl_blk h_)) (fun h_ => h_.elim (fun h_ => hF_ _ (mG 0 rfl) k_ (rowBl_blk h_)) (fun h_ => h_.elim rowBl_none rowBl_none))))), hT_.below⟩
  ·refine rO [3, 10, 11, 12] ?_
   refine qM (t := 25) (e := 3) (size := 1) (by_ := 8) (k := .i64) (k' := .i64) (n := c.f0) (enc := iE) true 0 [.int .i64 0] (by have p0_ := hO.1.1; have p1_ := hO.1.2; omega) (by have p0_ := hO.1.1; have p1_ := hO.1.2; omega) ?_
   refine rZ 1 ?_
   refine qM (t := 25) (e := 3) (size := 1) (by_ := 8) (k := .i64) (k' := .i64) (n := c.f0) (enc := iE) true 0 [.int .i64 0] (by have p0_ := hO.1.1; have p1_ := hO.1.2; omega) (by have p0_ := hO.1.1; have p1_ := hO.1.2; omega) ?_
   refine qG 4 [] 3 (List.flatMap iE (List.replicate c.f0.toNat 0) ++ []) (fun g21_ => ?_)
   refine qG 2 [] 3 (List.flatMap iE (List.replicate c.f0.toNat 0) ++ []) (fun g22_ => ?_)
   refine qG 3 [] 3 (List.flatMap iE (List.replicate c.f0.toNat 0) ++ []) (fun g23_ => ?_)
   refine rZ 5 ?_
   obtain ⟨m_, hq_, hm_⟩ := nm (m07New c)
   have h0_ := hm_
   unfold m07New at hm_
   refine qR [.agg (encB m_.1 (RA.mk (some ⟨g21_, 0, none⟩) (some ⟨g22_, 0, none⟩) (some ⟨g23_, 0, none⟩) none none c.f0.toNat c.f0.toNat c.f0.toNat 0 0)).toArray, .int .i64 m_.2] (fun W1_ hT_ hR_ hF_ => ?_) (h := by rewrite [← hm_]; kernel_rfl)
   rw [hq_, ← hm_]
   exact ⟨_, rfl, ⟨(row_blk (hR_.get 2 rfl)), (row_blk (hR_.get 1 rfl)), (row_blk (hR_.get 0 rfl)), row_nil, row_nil, (Nat.le_of_eq List.length_replicate), (Nat.le_of_eq List.length_replicate), (Nat.le_of_eq List.length_replicate), (Nat.le_refl _), (Nat.le_refl _), (Inv.new c hO)⟩, (fun k_ => (fun h_ => h_.elim (fun h_ => hF_ _ (mG 2 rfl) k_ (rowBl_blk h_)) (fun h_ => h_.elim (fun h_ => hF_ _ (mG 1 rfl) k_ (rowBl_blk h_)) (fun h_ => h_.elim (fun h_ => hF_ _ (mG 0 rfl) k_ (rowBl_blk h_)) (fun h_ => h_.elim rowBl_none rowBl_none))))), hT_.below⟩
 ·refine rO [] ?_
  refine qM (t := 25) (e := 3) (size := 1) (by_ := 8) (k := .i64) (k' := .i64) (n := c.f0) (enc := iE) true 0 [.int .i64 0] (by have p0_ := hO.1.1; have p1_ := hO.1.2; omega) (by have p0_ := hO.1.1; have p1_ := hO.1.2; omega) ?_
  refine qF 3 6 ?_ ?_
  ·refine rO [6, 10, 11, 12] ?_
   refine qM (t := 25) (e := 3) (size := 1) (by_ := 8) (k := .i64) (k' := .i64) (n := c.f0) (enc := iE) true 0 [.int .i64 0] (by have p0_ := hO.1.1; have p1_ := hO.1.2; omega) (by have p0_ := hO.1.1; have p1_ := hO.1.2; omega) ?_
   refine rZ 1 ?_
   refine qM (t := 25) (e := 3) (size := 1) (by_ := 8) (k := .i64) (k' := .i64) (n := c.f0) (enc := iE) true 0 [.int .i64 0] (by have p0_ := hO.1.1; have p1_ := hO.1.2; omega) (by have p0_ := hO.1.1; have p1_ := hO.1.2; omega) ?_
   refine qG 3 [] 3 (List.flatMap iE (List.replicate c.f0.toNat 0) ++ []) (fun g27_ => ?_)
   refine qG 4 [] 3 (List.flatMap iE (List.replicate c.f0.toNat 0) ++ []) (fun g28_ => ?_)
   refine qG 2 [] 3 (List.flatMap iE (List.replicate c.f0.toNat 0) ++ []) (fun g29_ => ?_)
   refine rZ 5 ?_
   obtain ⟨m_, hq_, hm_⟩ := nm (m07New c)
   have h0_ := hm_
   unfold m07New at hm_
   refine qR [.agg (encB m_.1 (RA.mk (some ⟨g27_, 0, none⟩) (some ⟨g28_, 0, none⟩) (some ⟨g29_, 0, none⟩) none none c.f0.toNat c.f0.toNat c.f0.toNat 0 0)).toArray, .int .i64 m_.2] (fun W1_ hT_ hR_ hF_ => ?_) (h := by rewrite [← hm_]; kernel_rfl)
   rw [hq_, ← hm_]
   exact ⟨_, rfl, ⟨(row_blk (hR_.get 2 rfl)), (row_blk (hR_.get 1 rfl)), (row_blk (hR_.get 0 rfl)), row_nil, row_nil, (Nat.le_of_eq List.length_replicate), (Nat.le_of_eq List.length_replicate), (Nat.le_of_eq List.length_replicate), (Nat.le_refl _), (Nat.le_refl _), (Inv.new c hO)⟩, (fun k_ => (fun h_ => h_.elim (fun h_ => hF_ _ (mG 2 rfl) k_ (rowBl_blk h_)) (fun h_ => h_.elim (fun h_ => hF_ _ (mG 1 rfl) k_ (rowBl_blk h_)) (fun h_ => h_.elim (fun h_ => hF_ _ (mG 0 rfl) k_ (rowBl_blk h_)) (fun h_ => h_.elim rowBl_none rowBl_none))))), hT_.below⟩
  ·refine rO [3, 10, 11, 12] ?_
   refine qM (t := 25) (e := 3) (size := 1) (by_ := 8) (k := .i64) (k' := .i64) (n := c.f0) (enc := iE) true 0 [.int .i64 0] (by have p0_ := hO.1.1; have p1_ := hO.1.2; omega) (by have p0_ := hO.1.1; have p1_ := hO.1.2; omega) ?_
   refine rZ 1 ?_
   refine qM (t := 25) (e := 3) (size := 1) (by_ := 8) (k := .i64) (k' := .i64) (n := c.f0) (enc := iE) true 0 [.int .i64 0] (by have p0_ := hO.1.1; have p1_ := hO.1.2; omega) (by have p0_ := hO.1.1; have p1_ := hO.1.2; omega) ?_
   refine qG 4 [] 3 (List.flatMap iE (List.replicate c.f0.toNat 0) ++ []) (fun g32_ => ?_)
   refine qG 3 [] 3 (List.flatMap iE (List.replicate c.f0.toNat 0) ++ []) (fun g33_ => ?_)
   refine qG 2 [] 3 (List.flatMap iE (List.replicate c.f0.toNat 0) ++ []) (fun g34_ => ?_)
   refine rZ 5 ?_
   obtain ⟨m_, hq_, hm_⟩ := nm (m07New c)
   have h0_ := hm_
   unfold m07New at hm_
   refine qR [.agg (encB m_.1 (RA.mk (some ⟨g32_, 0, none⟩) (some ⟨g33_, 0, none⟩) (some ⟨g34_, 0, none⟩) none none c.f0.toNat c.f0.toNat c.f0.toNat 0 0)).toArray, .int .i64 m_.2] (fun W1_ hT_ hR_ hF_ => ?_) (h := by rewrite [← hm_]; kernel_rfl)
   rw [hq_, ← hm_]
   exact ⟨_, rfl, ⟨(row_blk (hR_.get 2 rfl)), (row_blk (hR_.get 1 rfl)), (row_blk (hR_.get 0 rfl)), row_nil, row_nil, (Nat.le_of_eq List.length_replicate), (Nat.le_of_eq List.length_replicate), (Nat.le_of_eq List.length_replicate), (Nat.le_refl _), (Nat.le_refl _), (Inv.new c hO)⟩, (fun k_ => (fun h_ => h_.elim (fun h_ => hF_ _ (mG 2 rfl) k_ (rowBl_blk h_)) (fun h_ => h_.elim (fun h_ => hF_ _ (mG 1 rfl) k_ (rowBl_blk h_)) (fun h_ => h_.elim (fun h_ => hF_ _ (mG 0 rfl) k_ (rowBl_blk h_)) (fun h_ => h_.elim rowBl_none rowBl_none))))), hT_.below⟩
def k08_New.T4 : Bool × List (List Nat × List Nat) := (true, [([], []), ([], []), ([1], [1]), ([2, 2], [2]), ([], []), ([0, 3, 4], [0, 3, 4]), ([5, 3, 0, 1, 2, 3, 4, 5], [5]), ([6, 0, 1, 2, 3, 4, 5, 6], [])])
def m08New (c : S23) : RW × Int := ((RW.mk c (m06New (lLen c)).ws (m06New (lLen c)).st ((m07New c).1)), 0)
theorem k08_New (c : S23) (hO : OkC c) (W : World) : Calls Try.prog 19 #[.agg (encC c).toArray] W (fun e W' => ∃ r0 : RX, e = .returned (.tuple #[.agg (encW ((m08New c).1) r0).toArray, .int .i64 (m08New c).2]) ∧ WAt W' (m08New c).1 r0 ∧ FreshIn [] W (wRep (m08New c).1 r0) ∧ Below W.heap.size W W') := by
 refine rf_enter (args := [.agg (encC c).toArray]) [] Try.func19 rfl (by simp) ?_
 refine rX 9 ?_
 refine qC [.agg (encC c).toArray] fun W_ hT_ hR_ => (k07_New c hO _).mono ?_
 rintro e_ W1_ ⟨rx1_, rfl, hw1_, hf1_, hb_⟩
 refine ⟨_, [bRep ((m07New c).1) rx1_], rfl, hb_, (NewOk.cons hw1_ (fresh_nil hf1_) NewOk.nil), ?_⟩
 refine rZ 13 ?_
 refine qI ((m07New c).2 != 0) (fun hx_ => by rw [(show ((m07New c).2 != 0) = false from rfl)] at hx_; cases hx_) (fun hx_ => ?_)
 clear hx_
 refine rZ 2 ?_
 refine qD k08_New.T4 [0, 0, 2, 6, 0, 31, 63, 127] [] [0, 2] [] ?_
 refine rO [0, 1, 4, 2, 3, 5, 6, 7] ?_
 refine rZ 4 ?_
 refine qV [.agg (encC c).toArray] (fun W_ hT_ hR_ => c05_Len c _) ?_
 refine rZ 1 ?_
 refine qC [.int .i64 (lLen c)] fun W_ hT_ hR_ => (k06_New (lLen c) (lLen_le hO).2 _).mono ?_
 rintro e_ W1_ ⟨rx3_, rfl, hw3_, hf3_, hb_⟩
 refine ⟨_, [mRep (m06New (lLen c)) rx3_], rfl, hb_, (NewOk.cons hw3_ (fresh_nil hf3_) NewOk.nil), ?_⟩
 refine rZ 5 ?_
 obtain ⟨m_, hq_, hm_⟩ := nm (m08New c)
 unfold m08New at hm_
 refine qR [.agg (encW m_.1 (RX.mk rx3_.A rx3_.C rx1_)).toArray, .int .i64 m_.2] (fun W1_ hT_ hR_ hF_ => ?_) (h := by rewrite [← hm_]; kernel_rfl)
 rw [hq_, ← hm_]
 exact ⟨_, rfl, ⟨(mget hR_ 0 rfl).m, (mget hR_ 0 rfl).l, (mget hR_ 0 rfl).s, (bget hR_ 1 rfl)⟩, (fun k_ => (fun h_ => h_.elim (fun h_ => hF_ _ (mG 0 rfl) k_ h_) (fun h_ => hF_ _ (mG 1 rfl) k_ h_))), hT_.below⟩
end Go.Proofs.Ytbhakljebcmocaa.PBoundKeeps
end
section
namespace Go.Proofs.Ytbhakljebcmocaa.PBoundKeeps
open Go.RowKit Go.Proofs.YtbhakljebcmocaaW.PrintWords Go.Proofs.YtbhakljebcmocaaW.PrintLast Go.Proofs.YtbhakljebcmocaaW.PrintMore
set_option linter.unusedVariables false
set_option linter.unusedSimpArgs false
structure DM (d : AD) (r : DX) : Prop where
 tm : r.l.map TH.t = d.ts
 em : r.es.map EV.e = d.es
 tn : r.l.length ≤ 1000000
 en : r.es.length ≤ 1000000
theorem DAt.dm {W : World} {d : AD} {r : DX} (h : DAt W d r) : DM d r := ⟨h.tm, h.em, h.n, h.ne⟩
theorem DM.tt {d : AD} {r : DX} (h : DM d r) (i : Nat) : (r.l.getD i zTH).t = d.ts.getD i zTR := by rw [getD_mapL TH.t, h.tm]; rfl
theorem DM.tl {d : AD} {r : DX} (h : DM d r) : r.l.length = d.ts.length := by rw [← h.tm, List.length_map]
theorem DM.ell {d : AD} {r : DX} (h : DM d r) : r.es.length = d.es.length := by rw [← h.em, List.length_map]
theorem getD_e (l : List EV) (i : Nat) : (l.getD i zEV).e = (l.map EV.e).getD i zEA := getD_mapL EV.e l i zEV
theorem set_mapL {α β : Type} (f : α → β) (l : List α) (i : Nat) (y : α) : (l.set i y).map f = (l.map f).set i (f y) := List.map_set
def stA (e : EA) : EA := EA.mk e.thread e.index e.begin_ e.end_ (IntKind.i64.wrap (e.steps + 1)) e.call e.err e.done e.val
def eaSt (l : List EA) (i : Int) (b : Bool) : List EA := bif b then l.set (Int.toNat i) (stA (l.getD (Int.toNat i) zEA)) else l
def evSt (l : List EV) (i : Int) (b : Bool) : List EV := bif b then l.set (Int.toNat i) (EV.mk (stA (l.getD (Int.toNat i) zEV).e) (l.getD (Int.toNat i) zEV).pr) else l
theorem evSt_len (l : List EV) (i : Int) (b : Bool) : (evSt l i b).length = l.length := by
 cases b
 ·rfl
 ·exact List.length_set
theorem evSt_map (l : List EV) (i : Int) (b : Bool) : (evSt l i b).map EV.e = eaSt (l.map EV.e) i b := by
 cases b
 ·rfl
 ·show (l.set _ _).map EV.e = (l.map EV.e).set _ (stA _)
  rw [set_mapL, ← getD_e]
theorem evSt_deep {W : World} {l : List EV} {i : Int} {b : Bool} (h : ∀ y, y ∈ l → PAt W y.pr) : ∀ y, y ∈ evSt l i b → PAt W y.pr := by
 cases b
 ·exact h
 ·refine edeep_set h ?_
  rcases getD_mem l (Int.toNat i) zEV with e | e
  ·exact h _ e
  ·rw [e]; exact .nil
theorem evSt_bl {l : List EV} {i : Int} {b : Bool} {k : Nat} (h : eDeep (evSt l i b) k) : eDeep l k := by
 cases b
 ·exact h
 ·exact eDeep_set h (fun h => h) (fun h => eDeep_get h)
def enA (e : EA) (a : Int) (err : Int) (dn : Bool) (v : Int) : EA := EA.mk e.thread e.index e.begin_ a e.steps e.call err dn v
def eaEn (l : List EA) (i : Int) (b : Bool) (a : Int) (err : Int) (dn : Bool) (v : Int) : List EA := bif b then l.set (Int.toNat i) (enA (l.getD (Int.toNat i) zEA) a err dn v) else l
def evEn (l : List EV) (i : Int) (b : Bool) (a : Int) (err : Int) (dn : Bool) (v : Int) (p : PS) : List EV := bif b then l.set (Int.toNat i) (EV.mk (enA (l.getD (Int.toNat i) zEV).e a err dn v) p) else l
theorem evEn_len (l : List EV) (i : Int) (b : Bool) (a err : Int) (dn : Bool) (v : Int) (p : PS) : (evEn l i b a err dn v p).length = l.length := by
 cases b
 ·rfl
 ·exact List.length_set
theorem evEn_map (l : List EV) (i : Int) (b : Bool) (a err : Int) (dn : Bool) (v : Int) (p : PS) : (evEn l i b a err dn v p).map EV.e = eaEn (l.map EV.e) i b a err dn v := by
 cases b
 ·rfl
 ·show (l.set _ _).map EV.e = (l.map EV.e).set _ (enA _ a err dn v)
  rw [set_mapL, ← getD_e]
theorem evEn_deep {W : World} {l : List EV} {i : Int} {b : Bool} {a err : Int} {dn : Bool} {v : Int} {p : PS} (h : ∀ y, y ∈ l → PAt W y.pr) (hp : PAt W p) : ∀ y, y ∈ evEn l i b a err dn v p → PAt W y.pr := by
 cases b
 ·exact h
 ·exact edeep_set h hp
theorem evEn_bl {l : List EV} {i : Int} {b : Bool} {a err : Int} {dn : Bool} {v : Int} {q : PS} {k : Nat} {p : Prop} (h : eDeep (evEn l i b a err dn v q) k) (h1 : eDeep l k → p) (h2 : rowBl q.a k → p) : p := by
 cases b
 ·exact h1 h
 ·exact eDeep_set h h1 h2
def thEn (t : TR) (b : Bool) : TR := bif b then TR.mk t.prog t.next t.whom 0 t.call t.scan t.event else t
theorem TAt.en {W : World} {t : TR} {x : TX} {b : Bool} (h : TAt W t x) : TAt W (thEn t b) x := by
 cases b
 ·exact h
 ·exact ⟨h.m, h.l, h.n, h.s⟩
theorem tBl_en {t : TR} {b : Bool} {x : TX} {k : Nat} (h : tBl (thEn t b) x k) : tBl t x k := by cases b <;> exact h
def pkb1 (t : TR) : Bool := bif t.going == 1 then t.call.done else false
def pkb2 (t : TR) : Bool := bif t.going == 2 then t.scan.done else false
theorem thEn_ev (t : TR) (b : Bool) : (thEn t b).event = t.event := by cases b <;> rfl
theorem thEn_sc (t : TR) (b : Bool) : (thEn t b).scan = t.scan := by cases b <;> rfl
def m20Out (d : AD) (n : Int) : Bool := bif decide (n < 0) then true else bif decide (n ≥ (d.ts.length : Int)) then true else bif ((d.ts.getD (Int.toNat n) zTR).going == 0) then ((d.ts.getD (Int.toNat n) zTR).next == ((d.ts.getD (Int.toNat n) zTR).prog.length : Int)) else false
def m20P1 (d : AD) (n : Int) : AD := bif ((d.ts.getD (Int.toNat n) zTR).going == 0) then m20Begin d n else d
theorem out_n {d : AD} {n : Int} (h : m20Out d n = false) : 0 ≤ n ∧ n < (d.ts.length : Int) ∧ ((d.ts.getD (Int.toNat n) zTR).going = 0 → (d.ts.getD (Int.toNat n) zTR).next ≠ ((d.ts.getD (Int.toNat n) zTR).prog.length : Int)) := by
 unfold m20Out at h
 by_cases h1 : n < 0
 ·rw [decide_eq_true h1] at h; cases h
 by_cases h2 : n ≥ (d.ts.length : Int)
 ·rw [decide_eq_false h1, decide_eq_true h2] at h; cases h
 rw [decide_eq_false h1, decide_eq_false h2] at h
 refine ⟨by omega, by omega, fun h3 => ?_⟩
 rw [show ((d.ts.getD (Int.toNat n) zTR).going == 0) = true by rw [h3]; rfl] at h
 simpa using h
def pkT (s : AD × Bool) (n : Int) : TR := s.1.ts.getD (Int.toNat n) zTR
def pkU (t : TR) : TR := thEn t (pkb1 t)
def pkE (l : List EA) (t : TR) (b : Bool) (a : Int) : List EA := eaEn (eaEn (eaSt l t.event b) t.event (pkb1 t) a t.call.result.err t.call.result.done t.call.result.val) (pkU t).event (pkb2 (pkU t)) a (pkU t).scan.err (pkU t).scan.rdone (pkU t).scan.rval
def m20Pick (d : AD) (n : Int) : AD × Bool := bif m20Out d n then (AD.mk d.w d.ts d.es (IntKind.i64.wrap (d.time + 1)), false) else (AD.mk (m20Step (m20P1 d n) n).1.w ((m20Step (m20P1 d n) n).1.ts.set (Int.toNat n) (thEn (pkU (pkT (m20Step (m20P1 d n) n) n)) (pkb2 (pkU (pkT (m20Step (m20P1 d n) n) n))))) (pkE (m20Step (m20P1 d n) n).1.es (pkT (m20Step (m20P1 d n) n) n) (m20Step (m20P1 d n) n).2 d.time) (IntKind.i64.wrap (d.time + 1)), true)
structure PC where
 a : Option Addr
 c : Nat
 l : List S48
def zPC : PC := ⟨none, 0, []⟩
def pcE (y : PC) : List Value := [.slice y.a y.l.length y.c]
theorem pcE_len (y : PC) : (pcE y).length = 1 := rfl
structure GX where
 A : Option Addr
 C : Nat
 l : List PC
structure GAt (W : World) (g : List (List S48)) (x : GX) : Prop where
 m : x.l ≠ [] → RowC W x.A (x.l.flatMap pcE)
 l : x.l.length ≤ x.C
 n : x.l.length ≤ 1000000
 d : ∀ y, y ∈ x.l → (y.l ≠ [] → RowC W y.a (y.l.flatMap encCall)) ∧ y.l.length ≤ y.c ∧ y.l.length ≤ 1000000
 e : x.l.map PC.l = g
def gBl (x : GX) (k : Nat) : Prop := (x.l ≠ [] ∧ rowBl x.A k) ∨ ∃ y, y ∈ x.l ∧ y.l ≠ [] ∧ rowBl y.a k
def gRep (g : List (List S48)) (x : GX) : PRep := ⟨fun W => GAt W g x, gBl x, fun W k h hk => by
    rcases hk with ⟨hn, ad, e, rfl⟩ | ⟨y, hy, hn, ad, e, rfl⟩
    · exact ((h.m hn).1 ad e).1
    · exact (((h.d y hy).1 hn).1 ad e).1,
  fun w w1 h hs hk => ⟨fun hn => (h.m hn).keep hs (fun k q => hk k (.inl ⟨hn, q⟩)), h.l, h.n, fun y hy => ⟨fun hn => ((h.d y hy).1 hn).keep hs (fun k q => hk k (.inr ⟨y, hy, hn, q⟩)), (h.d y hy).2⟩, h.e⟩⟩
theorem gget {R : List PRep} {W : World} {g : List (List S48)} {x : GX} (h : RepAt R W) (i : Nat) (hi : R[i]? = some (gRep g x)) : GAt W g x := h.get i hi
theorem GAt.gl {W : World} {g : List (List S48)} {x : GX} (h : GAt W g x) : x.l.length = g.length := by rw [← h.e, List.length_map]
theorem GAt.gg {W : World} {g : List (List S48)} {x : GX} (h : GAt W g x) (i : Nat) : ((x.l.getD i zPC).l ≠ [] → RowC W (x.l.getD i zPC).a ((x.l.getD i zPC).l.flatMap encCall)) ∧ (x.l.getD i zPC).l.length ≤ (x.l.getD i zPC).c ∧ (x.l.getD i zPC).l.length ≤ 1000000 := by
 rcases getD_mem x.l i zPC with e | e
 ·exact h.d _ e
 ·rw [e]; exact ⟨fun _ => row_nil, Nat.le_refl _, Nat.zero_le _⟩
def nwTH (c : S23) (x : GX) (j : Nat) : TH := TH.mk (TR.mk (x.l.getD j zPC).l 0 (pNx (j : Int) c.f0) 0 zCallR zSc 0) (TX.mk (x.l.getD j zPC).a (x.l.getD j zPC).c zSX)
def nwTR (c : S23) (g : List (List S48)) (j : Nat) : TR := TR.mk (g.getD j []) 0 (pNx (j : Int) c.f0) 0 zCallR zSc 0
def nwL (c : S23) (x : GX) (i : Nat) : List TH := (List.range i).map (nwTH c x)
def nwM (c : S23) (g : List (List S48)) (i : Nat) : List TR := (List.range i).map (nwTR c g)
theorem nwL_len (c : S23) (x : GX) (i : Nat) : (nwL c x i).length = i := by unfold nwL; rw [List.length_map, List.length_range]
theorem nwL_succ (c : S23) (x : GX) (i : Nat) : nwL c x (i + 1) = nwL c x i ++ [nwTH c x i] := by unfold nwL; rw [List.range_succ, List.map_append]; rfl
theorem nwL_map {W : World} {g : List (List S48)} {x : GX} (h : GAt W g x) (c : S23) (i : Nat) : (nwL c x i).map TH.t = nwM c g i := by
 unfold nwL nwM
 rw [List.map_map]
 refine List.map_congr_left (fun j _ => ?_)
 show TR.mk (x.l.getD j zPC).l _ _ _ _ _ _ = TR.mk (g.getD j []) _ _ _ _ _ _
 rw [getD_mapL PC.l, h.e]
 rfl
theorem nwL_deep {W : World} {g : List (List S48)} {x : GX} (h : GAt W g x) (c : S23) (i : Nat) : ∀ y, y ∈ nwL c x i → TAt W y.t y.x := fun y hy => by
 obtain ⟨j, _, rfl⟩ := List.mem_map.mp hy
 exact ⟨(h.gg j).1, (h.gg j).2.1, (h.gg j).2.2, .z⟩
theorem nwL_bl {x : GX} {c : S23} {i k : Nat} (h : tDeep (nwL c x i) k) : gBl x k := by
 obtain ⟨y, hy, hk⟩ := h
 obtain ⟨j, _, rfl⟩ := List.mem_map.mp hy
 rcases hk with hk | hk
 ·rcases getD_mem x.l j zPC with e | e
  ·exact .inr ⟨_, e, hk⟩
  ·have hk' : (x.l.getD j zPC).l ≠ [] := hk.1
   rw [e] at hk'; exact absurd rfl hk'
 ·rcases hk with h | ⟨y, hy, _⟩ | h
  ·exact rowBl_none h
  ·cases hy
  ·exact rowBl_none h
theorem nwL_mx (c : S23) (x : GX) (i K : Nat) : MXle (nwL c x i) K := fun y hy => by
 obtain ⟨j, _, rfl⟩ := List.mem_map.mp hy
 exact Nat.zero_le _
def m20New (c : S23) (g : List (List S48)) : AD × Int := (AD.mk (m08New c).1 (nwM c g (Int.toNat c.f0)) [] 0, 0)
def m20Pk (d : AD) : List Int → AD
 | [] => d
 | n :: r => m20Pk (m20Pick d n).1 r
theorem m20Pk_snoc : ∀ (d : AD) (l : List Int) (n : Int), m20Pk d (l ++ [n]) = (m20Pick (m20Pk d l) n).1
 | _, [], _ => rfl
 | d, x :: r, n => m20Pk_snoc (m20Pick d x).1 r n
theorem out_nr {d : AD} {r : DX} {n : Int} (hd : DM d r) (h : m20Out d n = false) : 0 ≤ n ∧ n < (r.l.length : Int) := by
 have := out_n h
 rw [← hd.tl] at this
 exact ⟨this.1, this.2.1⟩
theorem out_np {d : AD} {r : DX} {n : Int} (hd : DM d r) (h : m20Out d n = false) (hg : ((r.l.getD (Int.toNat n) zTH).t.going == 0) = true) : (r.l.getD (Int.toNat n) zTH).t.next ≠ ((r.l.getD (Int.toNat n) zTH).t.prog.length : Int) := by
 have := (out_n h).2.2
 rw [← hd.tt] at this
 exact this (by simpa using hg)
theorem evSt_t {l : List EV} {i : Int} {b : Bool} (h : b = true) : evSt l i b = l.set (Int.toNat i) (EV.mk (stA (l.getD (Int.toNat i) zEV).e) (l.getD (Int.toNat i) zEV).pr) := by subst h; rfl
theorem evSt_f {l : List EV} {i : Int} {b : Bool} (h : b = false) : evSt l i b = l := by subst h; rfl
theorem evEn_t {l : List EV} {i : Int} {b : Bool} {a err : Int} {dn : Bool} {v : Int} {p : PS} (h : b = true) : evEn l i b a err dn v p = l.set (Int.toNat i) (EV.mk (enA (l.getD (Int.toNat i) zEV).e a err dn v) p) := by subst h; rfl
theorem evEn_f {l : List EV} {i : Int} {b : Bool} {a err : Int} {dn : Bool} {v : Int} {p : PS} (h : b = false) : evEn l i b a err dn v p = l := by subst h; rfl
theorem thEn_t {t : TR} {b : Bool} (h : b = true) : thEn t b = TR.mk t.prog t.next t.whom 0 t.call t.scan t.event := by subst h; rfl
theorem thEn_f {t : TR} {b : Bool} (h : b = false) : thEn t b = t := by subst h; rfl
theorem evSt_mapE {l : List EV} {A : List EA} {i : Int} {b : Bool} (h : l.map EV.e = A) : (evSt l i b).map EV.e = eaSt A i b := by rw [evSt_map, h]
theorem evEn_mapE {l : List EV} {A : List EA} {i : Int} {b : Bool} {a err : Int} {dn : Bool} {v : Int} {p : PS} (h : l.map EV.e = A) : (evEn l i b a err dn v p).map EV.e = eaEn A i b a err dn v := by rw [evEn_map, h]
section
variable {P : Program} {E : TE} {Q : Exit → Act → World → Prop} {W0 : World} {F : Fr} {kn : List Nat} {R : List PRep} {S : St} {m : Md} {α : Type} {enc : α → List Value}
theorem rf_apNL (hE : E.ok P) (cl' : Bool) {t e size by_ : Nat} {x : SV} (l2 : List α) (hlen : ∀ x, (enc x).length = size) (h1 : ∀ x, (enc x).all (fun u => u.oneCell') = true) (h : shp S m = some (.ap t (.v (.slice none 0 0)) x)) (hok : okS cl' m = true) (hel : E.el.lookup t = some (e, size, by_)) (h0 : 0 < l2.length) (hmm : l2.length ≤ 1000000) (hby : by_ ≤ 1000000)
    (hx : ∀ γ W, Known kn γ → Bq W0 F γ S.L R W → NewsAt γ l2.length x (l2.flatMap enc) W)
    (hG : ∀ c' sp', (l2.flatMap enc ++ sp').length = c' * size → l2.length ≤ c' → c' ≤ maxLen → Go P Q W0 F kn R ⟨S.L ++ [some ⟨true, e, (l2.flatMap enc ++ sp').map .v⟩], putT S.T (dstV S m) (.sl S.L.length l2.length c')⟩ (setCl cl' (afterV m))) : Go P Q W0 F kn R S m :=
  rf_apN hE cl' h hok hel (flat_len hlen l2) (flat_one h1 l2) h0 hmm hby hx hG
theorem qB {S : Md × St → St} {m : Md × St → Md} {y' : Md × St} (cl' : Bool) {t e size by_ : Nat} {x : SV} (l2 : List α) (hlen : ∀ x, (enc x).length = size) (h1 : ∀ x, (enc x).all (fun u => u.oneCell') = true) (h0 : 0 < l2.length) (hmm : l2.length ≤ 1000000)
    (hx : ∀ γ W, Known kn γ → Bq W0 F γ (S y').L R W → NewsAt γ l2.length x (l2.flatMap enc) W)
    (hG : ∀ c' sp', (l2.flatMap enc ++ sp').length = c' * size → l2.length ≤ c' → c' ≤ maxLen → ∀ y, y = y' → Go Try.prog Q W0 F kn R ⟨(S y).L ++ [some ⟨true, e, (l2.flatMap enc ++ sp').map .v⟩], putT (S y).T (dstV (S y) (m y)) (.sl (S y).L.length l2.length c')⟩ (setCl cl' (afterV (m y))))
    (h : shp (S y') (m y') = some (.ap t (.v (.slice none 0 0)) x) := by kernel_rfl) (hok : okS cl' (m y') = true := by kernel_rfl) (hel : tE.el.lookup t = some (e, size, by_) := by rfl) (hby : by_ ≤ 1000000 := by decide) : ∀ y, y = y' → Go Try.prog Q W0 F kn R (S y) (m y) := by rintro y rfl; exact rf_apNL te_ok cl' l2 hlen h1 h hok hel h0 hmm hby hx (fun c s a1 a2 a3 => hG c s a1 a2 a3 _ rfl)
end
theorem nw_t {c : S23} {x : GX} {i : Int} {l : List TH} {t : TR} {y : TX} (h0 : 0 ≤ i ∧ i ≤ 1000) (hl : l = nwL c x (Int.toNat i)) (ht : TH.mk t y = nwTH c x (Int.toNat i)) : l ++ [TH.mk t y] = nwL c x (Int.toNat (IntKind.i64.wrap (i + 1))) := by
 rw [w64 (by omega) (by omega), show Int.toNat (i + 1) = Int.toNat i + 1 by omega, nwL_succ, hl, ht]
theorem nw_1 {c : S23} {x : GX} {i : Int} {p : PC} (h0 : 0 ≤ i) (hp : p = x.l.getD (Int.toNat i) zPC) : TH.mk (TR.mk p.l 0 (pNx i c.f0) 0 zCallR zSc 0) (TX.mk p.a p.c zSX) = nwTH c x (Int.toNat i) := by
 subst hp
 unfold nwTH
 rw [Int.toNat_of_nonneg h0]
theorem nw_no {x : GX} {i : Int} (h : ¬ i < (x.l.length : Int)) : zPC = x.l.getD (Int.toNat i) zPC := by rw [List.getD_eq_getElem?_getD, List.getElem?_eq_none (by omega)]; rfl
theorem wi_ {i c : Int} (h0 : 0 ≤ i) (h1 : i < c) (h2 : c ≤ 8) : 1 ≤ IntKind.i64.wrap (i + 1) ∧ IntKind.i64.wrap (i + 1) ≤ c ∧ (c - IntKind.i64.wrap (i + 1)).toNat < (c - i).toNat := by
 rw [w64 (by omega) (by omega)]
 omega
theorem wi0_ {i c : Int} (h0 : 0 ≤ i) (h1 : i < c) (h2 : c ≤ 8) : 0 ≤ i ∧ i ≤ 1000 := ⟨h0, by omega⟩
theorem nwL_lenE {c : S23} {x : GX} {i : Int} {l : List TH} (h : l = nwL c x (Int.toNat i)) : l.length = Int.toNat i := by rw [h, nwL_len]
structure KAt (W : World) (q : List Int) (x : IX) : Prop where
 m : q ≠ [] → RowC W x.A (q.flatMap iE)
 l : q.length ≤ x.C
 s : q.length ≤ 1000000
def kBl (l : List Int) (x : IX) (k : Nat) : Prop := l ≠ [] ∧ rowBl x.A k
def kRep (l : List Int) (x : IX) : PRep := ⟨fun W => KAt W l x, kBl l x, fun W k h hk => by obtain ⟨hn, ad, e, rfl⟩ := hk; exact ((h.m hn).1 ad e).1, fun w w1 h hs hk => ⟨fun hn => (h.m hn).keep hs (fun k q => hk k ⟨hn, q⟩), h.l, h.s⟩⟩
theorem kget {R : List PRep} {W : World} {l : List Int} {x : IX} (h : RepAt R W) (i : Nat) (hi : R[i]? = some (kRep l x)) : KAt W l x := h.get i hi
end Go.Proofs.Ytbhakljebcmocaa.PBoundKeeps
end
section
namespace Go.Proofs.Ytbhakljebcmocaa.PBoundKeeps
open Go.RowKit Go.Proofs.YtbhakljebcmocaaW.PrintWords Go.Proofs.YtbhakljebcmocaaW.PrintLast Go.Proofs.YtbhakljebcmocaaW.PrintMore
set_option linter.unusedVariables false
set_option linter.unusedSimpArgs false
theorem Addr.add_block (ad : Addr) (j : Nat) : (ad.add j).block = ad.block := by unfold Addr.add; split <;> rfl
theorem cell_lt {W : World} {ad : Addr} {j : Nat} {u : Value} (h : W.cell? (ad.add j) = some u) : ad.block < W.heap.size := by
 rcases Nat.lt_or_ge ad.block W.heap.size with q | q
 ·exact q
 ·unfold World.cell? at h
  rw [Addr.add_block, Array.getElem?_eq_none q] at h
  cases h
theorem row_of {α : Type} {d : Kd α} {enc : α → List Value} (hz : 0 < d.sz) (hlen : ∀ x, (enc x).length = d.sz) (ho : ∀ (w : World) x cs, d.K w x cs → cs = enc x) {W : World} {A : Option Addr} {n : Nat} {l : List α} (h : Kd.C d W A n l) (hne : l ≠ []) : RowC W A (l.flatMap enc) := by
 obtain ⟨h1, h2, h3⟩ := h
 have hn : 0 < n := by
  rcases Nat.eq_zero_or_pos n with q | q
  ·rw [q] at h1; exact absurd (List.length_eq_zero_iff.mp h1) hne
  ·exact q
 obtain ⟨ad, rfl, hc⟩ := h3 hn
 have hcell : ∀ j u, (l.flatMap enc)[j]? = some u → W.cell? (ad.add j) = some u := fun j u hj => by
  have hjl := (List.getElem?_eq_some_iff.mp hj).1
  rw [flat_len hlen] at hjl
  have hq : j / d.sz < l.length := Nat.div_lt_of_lt_mul (by rw [Nat.mul_comm]; exact hjl)
  have e : j = j / d.sz * d.sz + j % d.sz := by rw [Nat.mul_comm]; exact (Nat.div_add_mod j d.sz).symm
  obtain ⟨c, c1, c2, c3⟩ := hc (j / d.sz) _ (List.getElem?_eq_getElem hq)
  rw [e]
  refine c3 (j % d.sz) u ?_
  obtain rfl := ho _ _ _ c2
  have := flat_get hlen l (j / d.sz) (j % d.sz) hq (Nat.mod_lt _ hz) []
  rw [List.append_nil, ← e, hj] at this
  exact this.symm
 refine ⟨fun ad' e => ?_, fun e => by cases e⟩
 obtain rfl := Option.some.inj e
 refine ⟨?_, hcell⟩
 cases l with
 | nil => exact absurd rfl hne
 | cons x r =>
  have hl : 0 < ((x :: r).flatMap enc).length := by rw [flat_len hlen]; exact Nat.mul_pos (by simp) hz
  exact cell_lt (hcell 0 _ (List.getElem?_eq_getElem hl))
theorem C_flat' {α : Type} {d : Kd α} {enc : α → List Value} (hz : 0 < d.sz) (h : ∀ x, (enc x).length = d.sz) {W : World} (hK : ∀ x, d.K W x (enc x)) {A : Option Addr} {l : List α} (hr : l ≠ [] → RowC W A (l.flatMap enc)) (hl : l.length ≤ 1000000) : Kd.C d W A l.length l := by
 by_cases hn : l = []
 ·subst hn
  exact ⟨rfl, Nat.zero_le _, fun hq => absurd hq (Nat.lt_irrefl 0)⟩
 ·exact C_flat hz h hK (hr hn) hl
theorem KAt.kd {W : World} {q : List Int} {x : IX} (h : KAt W q x) : Kd.C (Kd.int .i64) W x.A q.length q := C_flat' (enc := iE) (by decide) (fun _ => rfl) (fun _ => rfl) h.m h.s
theorem K_of {W : World} {A : Option Addr} {c : Nat} {q : List Int} (h : Kd.C (Kd.int .i64) W A q.length q) (hc : q.length ≤ c) (hl : q.length ≤ 1000000) : KAt W q (IX.mk A c) := ⟨fun hn => row_of (enc := iE) (by decide) (fun _ => rfl) (fun _ _ _ h => h) h hn, hc, hl⟩
theorem GAt.kd {W : World} {g : List (List S48)} {x : GX} (h : GAt W g x) : Kd.C (Kd.slice 48 k48) W x.A x.l.length g := by
 refine ⟨h.gl.symm, by have := h.n; omega, fun hn => ?_⟩
 have hm := h.m (ne_of hn)
 obtain ⟨ad, e⟩ := row_some hm (by rw [flat_len pcE_len]; omega)
 refine ⟨ad, e, fun j p hj => ?_⟩
 rw [← h.e, List.getElem?_map] at hj
 obtain ⟨y, hy, rfl⟩ := map_some' hj
 have hd := h.d y (List.mem_of_getElem? hy)
 refine ⟨[.slice y.a y.l.length y.c], rfl, ⟨y.a, y.c, rfl, hd.2.1, C_flat' (d := k48) (enc := encCall) (show 0 < 4 by decide) (fun _ => rfl) (fun x => k48_mk W x) hd.1 hd.2.2⟩, fun i u hu => ?_⟩
 obtain ⟨hjl, rfl⟩ := List.getElem?_eq_some_iff.mp hy
 have hi : i < 1 := by have := (List.getElem?_eq_some_iff.mp hu).1; simpa using this
 refine (hm.1 ad e).2 _ u ?_
 have := flat_get pcE_len x.l j i hjl hi []
 rw [List.append_nil] at this
 rw [show (Kd.slice 48 k48).sz = 1 from rfl, this]
 exact hu
theorem list_of {α : Type} (n : Nat) (p : Nat → α → Prop) (h : ∀ j, j < n → ∃ y, p j y) : ∃ l : List α, l.length = n ∧ ∀ j y, l[j]? = some y → p j y := by
 induction n with
 | zero => exact ⟨[], rfl, fun j y hj => by simp at hj⟩
 | succ n ih =>
  obtain ⟨l, h1, h2⟩ := ih (fun j hj => h j (by omega))
  obtain ⟨y, hy⟩ := h n (by omega)
  refine ⟨l ++ [y], by simp [h1], fun j z hz => ?_⟩
  rcases Nat.lt_or_ge j n with q | q
  ·rw [List.getElem?_append_left (by omega)] at hz
   exact h2 j z hz
  ·rw [List.getElem?_append_right (by omega), h1] at hz
   rcases Nat.eq_or_lt_of_le q with e | e
   ·subst e
    rw [Nat.sub_self] at hz
    obtain rfl := Option.some.inj hz
    exact hy
   ·rw [List.getElem?_eq_none (by simp; omega)] at hz; cases hz
theorem G_of {W : World} {A : Option Addr} {c : Nat} {g : List (List S48)} (h : Kd.C (Kd.slice 48 k48) W A g.length g) (hc : g.length ≤ c) (h4 : g.length ≤ 4) (hq : ∀ q, q ∈ g → q.length ≤ 4) : ∃ l : List PC, l.length = g.length ∧ GAt W g (GX.mk A c l) := by
 obtain ⟨l, hl, hp⟩ := list_of g.length (fun j (y : PC) => y.l = g.getD j [] ∧ y.l.length ≤ y.c ∧ Kd.C k48 W y.a y.l.length y.l ∧ ∀ ad, A = some ad → W.cell? (ad.add j) = some (.slice y.a y.l.length y.c)) (fun j hj => by
  obtain ⟨ad, c, e, c1, hK, hc0⟩ := Kd.C_get h ([] : List S48) (j : Int) (by omega) (by omega)
  obtain ⟨A0, c0, rfl, l0, g0⟩ := hK
  refine ⟨⟨A0, c0, g.getD j []⟩, rfl, ?_, ?_, fun ad' e' => ?_⟩
  ·exact l0
  ·exact g0
  ·rw [e] at e'
   obtain rfl := Option.some.inj e'
   have := hc0 0 _ rfl
   rw [Nat.add_zero] at this
   have e2 : ((j : Int).toNat * (Kd.slice 48 k48).sz) = j := Nat.mul_one _
   rw [e2] at this
   exact this)
 have hmem : ∀ y, y ∈ l → ∃ j, l[j]? = some y := fun y hy => List.mem_iff_getElem?.mp hy
 refine ⟨l, hl, fun hn => ?_, by show l.length ≤ c; omega, by show l.length ≤ 1000000; omega, fun y hy => ?_, ?_⟩
 ·have hn' : 0 < g.length := by
   have := List.length_pos_iff.mpr hn
   rw [← hl]; exact this
  obtain ⟨_, _, h3⟩ := h
  obtain ⟨ad, rfl, _⟩ := h3 hn'
  have hcell : ∀ j u, (l.flatMap pcE)[j]? = some u → W.cell? (ad.add j) = some u := fun j u hj => by
   have hjl := (List.getElem?_eq_some_iff.mp hj).1
   rw [flat_len pcE_len, Nat.mul_one] at hjl
   have := flat_get pcE_len l j 0 hjl (by decide) []
   rw [List.append_nil, Nat.mul_one, Nat.add_zero, hj] at this
   obtain rfl : u = _ := Option.some.inj this
   exact (hp j _ (List.getElem?_eq_getElem hjl)).2.2.2 ad rfl
  refine ⟨fun ad' e => ?_, fun e => by cases e⟩
  obtain rfl := Option.some.inj e
  refine ⟨?_, hcell⟩
  have hl0 : 0 < (l.flatMap pcE).length := by rw [flat_len pcE_len]; omega
  exact cell_lt (hcell 0 _ (List.getElem?_eq_getElem hl0))
 ·obtain ⟨j, hj⟩ := hmem y hy
  obtain ⟨p1, p2, p3, _⟩ := hp j y hj
  refine ⟨fun hn => row_of (d := k48) (enc := encCall) (by decide) (fun _ => rfl) (fun w x cs h => k48_open h) p3 hn, p2, ?_⟩
  have : y.l.length ≤ 4 := by
   rw [p1]
   rcases getD_mem g j [] with e | e
   ·exact hq _ e
   ·rw [e]; exact Nat.zero_le _
  omega
 ·apply List.ext_getElem?
  intro j
  show (l.map PC.l)[j]? = g[j]?
  rw [List.getElem?_map]
  rcases Nat.lt_or_ge j g.length with q | q
  ·have hjl : j < l.length := by omega
   rw [List.getElem?_eq_getElem hjl, List.getElem?_eq_getElem q]
   have := (hp j _ (List.getElem?_eq_getElem hjl)).1
   show some (l[j]).l = _
   rw [this, getD_lt g j q]
  ·rw [List.getElem?_eq_none (by omega), List.getElem?_eq_none (by omega)]
   rfl
def fewG (g : List (List S48)) (p : List Int) : Bool := (corrieref20_Few.f 20 g p).getD false
theorem few_step (g : List (List S48)) (p : List Int) : ∀ (m : Nat) (i : Int) (k : Nat), (5 - i).toNat = m → 0 ≤ i → i ≤ 5 → 2 * m + 4 ≤ k → ∃ r, corrieref20_Few.l0 k g p i = some r ∧ (r = true → g.length ≤ 4 ∧ p.length ≤ 240 ∧ ∀ j : Nat, i ≤ (j : Int) → j < g.length → (g.getD j []).length ≤ 4) := by
 intro m
 induction m with
 | zero =>
  intro i k hm h0 h5 hk
  obtain ⟨k, rfl⟩ : ∃ q, k = q + 2 := ⟨k - 2, by omega⟩
  have e5 : i = 5 := by omega
  subst e5
  have hj : ∃ r, corrieref20_Few.j1 (k + 1) g p 5 false = some r ∧ (r = true → g.length ≤ 4 ∧ p.length ≤ 240 ∧ ∀ j : Nat, (5 : Int) ≤ (j : Int) → j < g.length → (g.getD j []).length ≤ 4) := by
   simp only [corrieref20_Few.j1]
   rw [if_neg (by decide)]
   by_cases h4 : (g.length : Int) ≤ 4
   ·rw [if_pos h4]
    exact ⟨_, rfl, fun h => ⟨by omega, by have := of_decide_eq_true h; omega, fun j h1 h2 => by omega⟩⟩
   ·rw [if_neg h4]
    exact ⟨_, rfl, fun h => by cases h⟩
  simp only [corrieref20_Few.l0]
  by_cases h1 : (5 : Int) < (g.length : Int)
  ·rw [if_pos h1]; exact hj
  ·rw [if_neg h1]; exact hj
 | succ m ih =>
  intro i k hm h0 h5 hk
  obtain ⟨k, rfl⟩ : ∃ q, k = q + 2 := ⟨k - 2, by omega⟩
  simp only [corrieref20_Few.l0]
  by_cases h1 : i < (g.length : Int)
  ·rw [if_pos h1]
   have hd : decide (i < 5) = true := decide_eq_true (by omega)
   rw [hd]
   simp only [corrieref20_Few.j1]
   rw [if_pos trivial, if_pos h0, if_pos h1]
   have hrd : rd_L10 g i = g.getD i.toNat [] := rfl
   by_cases h4 : ((rd_L10 g i).length : Int) > 4
   ·rw [if_pos h4]
    exact ⟨_, rfl, fun h => by cases h⟩
   ·rw [if_neg h4]
    have hw : wrap64 (i + 1) = i + 1 := wrap64_eq (by omega) (by omega)
    rw [hw]
    obtain ⟨r, h2, h3⟩ := ih (i + 1) k (by omega) (by omega) (by omega) (by omega)
    refine ⟨r, h2, fun hr => ?_⟩
    obtain ⟨q1, q2, q3⟩ := h3 hr
    refine ⟨q1, q2, fun j hj1 hj2 => ?_⟩
    by_cases e : (j : Int) = i
    ·have : i.toNat = j := by omega
     rw [hrd, this] at h4
     omega
    ·exact q3 j (by omega) hj2
  ·rw [if_neg h1]
   simp only [corrieref20_Few.j1]
   rw [if_neg (by decide)]
   by_cases h4 : (g.length : Int) ≤ 4
   ·rw [if_pos h4]
    exact ⟨_, rfl, fun h => ⟨by omega, by have := of_decide_eq_true h; omega, fun j h1 h2 => by omega⟩⟩
   ·rw [if_neg h4]
    exact ⟨_, rfl, fun h => by cases h⟩
theorem fewG_some (g : List (List S48)) (p : List Int) : corrieref20_Few.f 20 g p = some (fewG g p) := by
 obtain ⟨r, h, _⟩ := few_step g p 5 0 20 (by decide) (by decide) (by decide) (by decide)
 have h' : corrieref20_Few.f 20 g p = some r := h
 unfold fewG
 rw [h']
 rfl
theorem fewG_ok {g : List (List S48)} {p : List Int} (h : fewG g p = true) : g.length ≤ 4 ∧ p.length ≤ 240 ∧ ∀ q, q ∈ g → q.length ≤ 4 := by
 obtain ⟨r, h1, h2⟩ := few_step g p 5 0 20 (by decide) (by decide) (by decide) (by decide)
 have h3 := fewG_some g p
 have h4 : corrieref20_Few.f 20 g p = some r := h1
 rw [h4] at h3
 obtain rfl := Option.some.inj h3
 obtain ⟨q1, q2, q3⟩ := h2 h
 refine ⟨q1, q2, fun q hq => ?_⟩
 obtain ⟨j, hj⟩ := List.mem_iff_getElem?.mp hq
 obtain ⟨hjl, rfl⟩ := List.getElem?_eq_some_iff.mp hj
 have := q3 j (by omega) hjl
 rwa [getD_lt g j hjl] at this
theorem c20_FewG (g : List (List S48)) (rg : GX) (p : List Int) (rp : IX) (W : World) (h1 : GAt W g rg) (h2 : KAt W p rp) : Calls Try.prog 6 #[.slice rg.A rg.l.length rg.C, .slice rp.A p.length rp.C] W fun e w' => e = .returned (.bool (fewG g p)) ∧ Below W.heap.size W w' := by
 have e := h1.gl
 have hk := h1.kd
 have hl := h1.l
 rw [e] at hk hl ⊢
 exact bel (corrieref20_Few.calls 20 _ _ g _ _ p _ W hk hl h2.kd h2.l (fewG_some g p))
theorem c20_FewK (g : List (List S48)) (p : List Int) {A A2 : Option Addr} {c c2 : Nat} (W : World) (h1 : Kd.C (Kd.slice 48 k48) W A g.length g) (hl : g.length ≤ c) (h2 : Kd.C (Kd.int .i64) W A2 p.length p) (hl2 : p.length ≤ c2) : Calls Try.prog 6 #[.slice A g.length c, .slice A2 p.length c2] W fun e w' => e = .returned (.bool (fewG g p)) ∧ Below W.heap.size W w' := bel (corrieref20_Few.calls 20 _ _ g _ _ p _ W h1 hl h2 hl2 (fewG_some g p))
theorem c23_awake (W : World) : Calls Try.prog 4 #[] W fun e w' => e = .returned (.bool true) ∧ Below W.heap.size W w' := corrielaw23_awake.calls true W rfl
def ev54 (y : EV) : S54 := ⟨y.e.thread, y.e.index, y.e.begin_, y.e.end_, y.e.steps, y.e.call, ⟨y.e.err, y.e.done, y.e.val, y.pr.ps⟩⟩
theorem ev_kd {W : World} {d : AD} {r : DX} (h : DAt W d r) : Kd.C k54 W r.eA r.es.length (r.es.map ev54) := by
 refine ⟨List.length_map .., by have := h.ne; omega, fun hn => ?_⟩
 obtain ⟨ad, e⟩ := row_some h.me (by rw [flat_len evE_len]; omega)
 refine ⟨ad, e, fun j p hj => ?_⟩
 rw [List.getElem?_map] at hj
 obtain ⟨y, hy, rfl⟩ := map_some' hj
 have hym := List.mem_of_getElem? hy
 have hd := h.de y hym
 refine ⟨evE y, rfl, k54_mk W (ev54 y) hd.l (pr_C hd), fun i u hu => ?_⟩
 obtain ⟨hjl, rfl⟩ := List.getElem?_eq_some_iff.mp hy
 have hi : i < 13 := by have := (List.getElem?_eq_some_iff.mp hu).1; simpa [evE_len] using this
 refine (h.me.1 ad e).2 _ u ?_
 have := flat_get evE_len r.es j i hjl hi []
 rw [List.append_nil] at this
 rw [show (k54).sz = 13 from rfl, this]
 exact hu
theorem c23_Ok (c : S23) {d : AD} {r : DX} (hk : ∃ k, bound_Ok.f k c.f0 c.f1 c.f2 c.f3 c.f4 (r.es.map ev54) = some true) (W : World) (h : DAt W d r) : Calls Try.prog 8 #[.agg (encC c).toArray, .slice r.eA r.es.length r.eC] W fun e w' => e = .returned (.bool true) ∧ Below W.heap.size W w' := by
 obtain ⟨k, hk⟩ := hk
 have hq := ev_kd h
 have hl := h.le
 rw [← List.length_map (f := ev54)] at hq hl ⊢
 exact bound_Ok.calls k _ _ _ _ _ _ _ _ true W hq hl hk
theorem c23_OkZ (c : S23) (W : World) : Calls Try.prog 8 #[.agg (encC c).toArray, .slice none 0 0] W fun e w' => e = .returned (.bool true) ∧ Below W.heap.size W w' := bound_Ok.calls 1 _ _ _ _ _ _ _ [] true W ⟨rfl, by decide, fun hq => absurd hq (Nat.lt_irrefl 0)⟩ (Nat.le_refl _) rfl
def lawT (c : S23) (g : List (List S48)) (p : List Int) : Bool := true
end Go.Proofs.Ytbhakljebcmocaa.PBoundKeeps
end
section
namespace Go.Proofs.Ytbhakljebcmocaa.PBoundKeeps
open Go.RowKit Go.Proofs.YtbhakljebcmocaaW.PrintWords Go.Proofs.YtbhakljebcmocaaW.PrintLast Go.Proofs.YtbhakljebcmocaaW.PrintMore
set_option linter.unusedVariables false
set_option maxHeartbeats 1000000
set_option maxRecDepth 100000
set_option linter.unusedSimpArgs false
def k20_Pick.T2 : Bool × List (List Nat × List Nat) := (true, [([], []), ([0], [0]), ([1], [1]), ([2], [2]), ([2], [2]), ([4, 2], [2, 4]), ([5, 2], [2, 5]), ([3, 6, 2], [2, 3, 6]), ([2, 7], [2, 7]), ([8, 2], [8]), ([9], [9]), ([10, 9], [9, 10]), ([9], [9]), ([11, 12, 9], [9, 11, 12]), ([13, 9], [9, 13]), ([14, 9], [9, 14]), ([15, 9], [9, 15]), ([16, 9, 9], [9, 16]), ([17], [17]), ([18, 17], [17, 18]), ([17], [17]), ([19, 20, 17], [17, 19, 20]), ([21, 17], [17, 21]), ([22, 17], [17, 22]), ([17], [17]), ([24, 17], [17, 24]), ([17], [17]), ([25, 26, 17], [17, 25, 26]), ([27, 17], [17, 27]), ([28, 17], [17, 28]), ([29, 17], [17, 29]), ([23, 30, 17], [17, 23, 30]), ([17, 31, 9], [9, 17, 31]), ([9, 32], [9, 32])])
def k20_Pick.T12 : Bool × List (List Nat × List Nat) := (true, [([], []), ([], []), ([1], [1]), ([], []), ([], []), ([4], [4]), ([3, 5], [3, 5]), ([6], [6]), ([7], [7]), ([8], [8]), ([0, 2, 0, 1, 2, 3, 4, 5, 6, 7, 8, 9], [0, 2]), ([10, 0, 1, 2, 3, 4, 5, 6, 7, 8, 9], [10]), ([11, 9, 0, 1, 2, 3, 4, 5, 6, 7, 8, 9], [9, 11])])
def k20_Pick.j1.c (d : AD) (rd : DX) (n : Int) (K : Nat) (x_ : Bool × (Nat → Value)) : St := match x_ with | ⟨q, tv_⟩ => ⟨[some ⟨true, 41, (encD d rd).map .v⟩, some ⟨true, 41, (encD (AD.mk (RW.mk ⟨0, 0, 0, 0, 0⟩ [] 0 (RB.mk ⟨0, 0, 0, 0, 0⟩ [] [] [] [] [])) [] [] 0) (DX.mk (RX.mk none 0 (RA.mk none none none none none 0 0 0 0 0)) none 0 [] none 0 [])).map .v⟩], tvl tv_ 146 [(1, .v (.int .i64 n)), (2, .ad 0 0), (4, .ad 1 0), (5, .v (.bool false)), (6, .v (.int .i64 d.time)), (46, .v (.bool q))]⟩
def k20_Pick.j1.r (d : AD) (rd : DX) (n : Int) (K : Nat) (x_ : Bool × (Nat → Value)) : List PRep := match x_ with | ⟨q, tv_⟩ => [dRep d rd]
def k20_Pick.j1.i (d : AD) (rd : DX) (n : Int) (K : Nat) (x_ : Bool × (Nat → Value)) : Prop := match x_ with | ⟨q, tv_⟩ => q = (m20Out d n)
def k20_Pick.j2.c (d : AD) (rd : DX) (n : Int) (K : Nat) (tv5_ : Nat → Value) (x_ : AD × DX × (Nat → Value)) : St := match x_ with | ⟨d1, r1, tv_⟩ => ⟨[some ⟨true, 41, (encD d1 r1).map .v⟩, some ⟨true, 41, (encD (AD.mk (RW.mk ⟨0, 0, 0, 0, 0⟩ [] 0 (RB.mk ⟨0, 0, 0, 0, 0⟩ [] [] [] [] [])) [] [] 0) (DX.mk (RX.mk none 0 (RA.mk none none none none none 0 0 0 0 0)) none 0 [] none 0 [])).map .v⟩], tvl tv_ 146 [(1, .v (.int .i64 n)), (2, .ad 0 0), (4, .ad 1 0), (5, .v (.bool false)), (6, .v (.int .i64 d.time))]⟩
def k20_Pick.j2.r (d : AD) (rd : DX) (n : Int) (K : Nat) (tv5_ : Nat → Value) (x_ : AD × DX × (Nat → Value)) : List PRep := match x_ with | ⟨d1, r1, tv_⟩ => [dRep d1 r1]
def k20_Pick.j2.i (d : AD) (rd : DX) (n : Int) (K : Nat) (tv5_ : Nat → Value) (x_ : AD × DX × (Nat → Value)) : Prop := match x_ with | ⟨d1, r1, tv_⟩ => d1 = m20P1 d n ∧ r1.l.length = rd.l.length ∧ MXle r1.l K ∧ DM d1 r1
def k20_Pick.j3.c (d : AD) (rd : DX) (n : Int) (K : Nat) (tv5_ : Nat → Value) (r1 : DX) (tv12_ : Nat → Value) (rx13_ : DX) (x_ : TR × TX × (Nat → Value)) : St := match x_ with | ⟨Tq, Xq, tv_⟩ => ⟨[some ⟨true, 41, (encD ((m20Step (m20P1 d n) n).1) rx13_).map .v⟩, some ⟨true, 41, (encD (AD.mk (RW.mk ⟨0, 0, 0, 0, 0⟩ [] 0 (RB.mk ⟨0, 0, 0, 0, 0⟩ [] [] [] [] [])) [] [] 0) (DX.mk (RX.mk none 0 (RA.mk none none none none none 0 0 0 0 0)) none 0 [] none 0 [])).map .v⟩, some ⟨true, 41, (encD ((m20Step (m20P1 d n) n).1) rx13_).map .v⟩, some ⟨true, 87, (encT Tq Xq).map .v⟩], tvl tv_ 146 [(1, .v (.int .i64 n)), (2, .ad 0 0), (4, .ad 1 0), (5, .v (.bool false)), (6, .v (.int .i64 d.time)), (8, .v (.bool ((m20Step (m20P1 d n) n).2))), (9, .ad 3 0)]⟩
def k20_Pick.j3.r (d : AD) (rd : DX) (n : Int) (K : Nat) (tv5_ : Nat → Value) (r1 : DX) (tv12_ : Nat → Value) (rx13_ : DX) (x_ : TR × TX × (Nat → Value)) : List PRep := match x_ with | ⟨Tq, Xq, tv_⟩ => [tRep Tq Xq, dRep ((m20Step (m20P1 d n) n).1) rx13_, dRep (m20P1 d n) r1]
def k20_Pick.j3.i (d : AD) (rd : DX) (n : Int) (K : Nat) (tv5_ : Nat → Value) (r1 : DX) (tv12_ : Nat → Value) (rx13_ : DX) (x_ : TR × TX × (Nat → Value)) : Prop := match x_ with | ⟨Tq, Xq, tv_⟩ => Tq = (rx13_.l.getD n.toNat zTH).t ∧ Xq = (rx13_.l.getD n.toNat zTH).x
def k20_Pick.j4.c (d : AD) (rd : DX) (n : Int) (K : Nat) (tv5_ : Nat → Value) (r1 : DX) (tv12_ : Nat → Value) (rx13_ : DX) (Tq : TR) (Xq : TX) (tv17_ : Nat → Value) (c18_ : Nat) (sp18_ : List Value) (x_ : (List EV) × (Nat → Value)) : St := match x_ with | ⟨l, tv_⟩ => ⟨[some ⟨true, 41, (encD ((m20Step (m20P1 d n) n).1) rx13_).map .v⟩, some ⟨true, 41, (encD (AD.mk (RW.mk ⟨0, 0, 0, 0, 0⟩ [] 0 (RB.mk ⟨0, 0, 0, 0, 0⟩ [] [] [] [] [])) [] [] 0) (DX.mk (RX.mk none 0 (RA.mk none none none none none 0 0 0 0 0)) none 0 [] none 0 [])).map .v⟩, some ⟨true, 41, (encD ((m20Step (m20P1 d n) n).1) rx13_).map .v⟩, some ⟨true, 87, (encT Tq Xq).map .v⟩, none, some ⟨true, 54, (List.flatMap evE l ++ sp18_).map .v⟩], tvl tv_ 146 [(1, .v (.int .i64 n)), (2, .ad 0 0), (4, .ad 1 0), (5, .v (.bool false)), (6, .v (.int .i64 d.time)), (9, .ad 3 0), (10, .sl 5 l.length c18_)]⟩
def k20_Pick.j4.r (d : AD) (rd : DX) (n : Int) (K : Nat) (tv5_ : Nat → Value) (r1 : DX) (tv12_ : Nat → Value) (rx13_ : DX) (Tq : TR) (Xq : TX) (tv17_ : Nat → Value) (c18_ : Nat) (sp18_ : List Value) (x_ : (List EV) × (Nat → Value)) : List PRep := match x_ with | ⟨l, tv_⟩ => [tRep Tq Xq, dRep ((m20Step (m20P1 d n) n).1) rx13_, dRep (m20P1 d n) r1]
def k20_Pick.j4.i (d : AD) (rd : DX) (n : Int) (K : Nat) (tv5_ : Nat → Value) (r1 : DX) (tv12_ : Nat → Value) (rx13_ : DX) (Tq : TR) (Xq : TX) (tv17_ : Nat → Value) (c18_ : Nat) (sp18_ : List Value) (x_ : (List EV) × (Nat → Value)) : Prop := match x_ with | ⟨l, tv_⟩ => l = (evSt rx13_.es Tq.event ((m20Step (m20P1 d n) n).2))
def k20_Pick.j5.c (d : AD) (rd : DX) (n : Int) (K : Nat) (tv5_ : Nat → Value) (r1 : DX) (tv12_ : Nat → Value) (rx13_ : DX) (Tq : TR) (Xq : TX) (tv17_ : Nat → Value) (c18_ : Nat) (sp18_ : List Value) (tv20_ : Nat → Value) (x_ : Bool × (Nat → Value)) : St := match x_ with | ⟨q, tv_⟩ => ⟨[some ⟨true, 41, (encD ((m20Step (m20P1 d n) n).1) rx13_).map .v⟩, some ⟨true, 41, (encD (AD.mk (RW.mk ⟨0, 0, 0, 0, 0⟩ [] 0 (RB.mk ⟨0, 0, 0, 0, 0⟩ [] [] [] [] [])) [] [] 0) (DX.mk (RX.mk none 0 (RA.mk none none none none none 0 0 0 0 0)) none 0 [] none 0 [])).map .v⟩, some ⟨true, 41, (encD ((m20Step (m20P1 d n) n).1) rx13_).map .v⟩, some ⟨true, 87, (encT Tq Xq).map .v⟩, none, some ⟨true, 54, (List.flatMap evE (evSt rx13_.es Tq.event ((m20Step (m20P1 d n) n).2)) ++ sp18_).map .v⟩], tvl tv_ 146 [(1, .v (.int .i64 n)), (2, .ad 0 0), (4, .ad 1 0), (5, .v (.bool false)), (6, .v (.int .i64 d.time)), (9, .ad 3 0), (10, .sl 5 (evSt rx13_.es Tq.event ((m20Step (m20P1 d n) n).2)).length c18_), (97, .v (.bool q))]⟩
def k20_Pick.j5.r (d : AD) (rd : DX) (n : Int) (K : Nat) (tv5_ : Nat → Value) (r1 : DX) (tv12_ : Nat → Value) (rx13_ : DX) (Tq : TR) (Xq : TX) (tv17_ : Nat → Value) (c18_ : Nat) (sp18_ : List Value) (tv20_ : Nat → Value) (x_ : Bool × (Nat → Value)) : List PRep := match x_ with | ⟨q, tv_⟩ => [tRep Tq Xq, dRep ((m20Step (m20P1 d n) n).1) rx13_, dRep (m20P1 d n) r1]
def k20_Pick.j5.i (d : AD) (rd : DX) (n : Int) (K : Nat) (tv5_ : Nat → Value) (r1 : DX) (tv12_ : Nat → Value) (rx13_ : DX) (Tq : TR) (Xq : TX) (tv17_ : Nat → Value) (c18_ : Nat) (sp18_ : List Value) (tv20_ : Nat → Value) (x_ : Bool × (Nat → Value)) : Prop := match x_ with | ⟨q, tv_⟩ => q = (pkb1 Tq)
def k20_Pick.j6.c (d : AD) (rd : DX) (n : Int) (K : Nat) (tv5_ : Nat → Value) (r1 : DX) (tv12_ : Nat → Value) (rx13_ : DX) (Tq : TR) (Xq : TX) (tv17_ : Nat → Value) (c18_ : Nat) (sp18_ : List Value) (tv20_ : Nat → Value) (tv22_ : Nat → Value) (x_ : (List EV) × TR × (Nat → Value)) : St := match x_ with | ⟨l, t, tv_⟩ => ⟨[some ⟨true, 41, (encD ((m20Step (m20P1 d n) n).1) rx13_).map .v⟩, some ⟨true, 41, (encD (AD.mk (RW.mk ⟨0, 0, 0, 0, 0⟩ [] 0 (RB.mk ⟨0, 0, 0, 0, 0⟩ [] [] [] [] [])) [] [] 0) (DX.mk (RX.mk none 0 (RA.mk none none none none none 0 0 0 0 0)) none 0 [] none 0 [])).map .v⟩, some ⟨true, 41, (encD ((m20Step (m20P1 d n) n).1) rx13_).map .v⟩, some ⟨true, 87, (encT t Xq).map .v⟩, none, some ⟨true, 54, (List.flatMap evE l ++ sp18_).map .v⟩], tvl tv_ 146 [(1, .v (.int .i64 n)), (2, .ad 0 0), (4, .ad 1 0), (5, .v (.bool false)), (6, .v (.int .i64 d.time)), (9, .ad 3 0), (10, .sl 5 l.length c18_)]⟩
def k20_Pick.j6.r (d : AD) (rd : DX) (n : Int) (K : Nat) (tv5_ : Nat → Value) (r1 : DX) (tv12_ : Nat → Value) (rx13_ : DX) (Tq : TR) (Xq : TX) (tv17_ : Nat → Value) (c18_ : Nat) (sp18_ : List Value) (tv20_ : Nat → Value) (tv22_ : Nat → Value) (x_ : (List EV) × TR × (Nat → Value)) : List PRep := match x_ with | ⟨l, t, tv_⟩ => [tRep Tq Xq, dRep ((m20Step (m20P1 d n) n).1) rx13_, dRep (m20P1 d n) r1]
def k20_Pick.j6.i (d : AD) (rd : DX) (n : Int) (K : Nat) (tv5_ : Nat → Value) (r1 : DX) (tv12_ : Nat → Value) (rx13_ : DX) (Tq : TR) (Xq : TX) (tv17_ : Nat → Value) (c18_ : Nat) (sp18_ : List Value) (tv20_ : Nat → Value) (tv22_ : Nat → Value) (x_ : (List EV) × TR × (Nat → Value)) : Prop := match x_ with | ⟨l, t, tv_⟩ => l = (evEn (evSt rx13_.es Tq.event ((m20Step (m20P1 d n) n).2)) Tq.event (pkb1 Tq) d.time Tq.call.result.err Tq.call.result.done Tq.call.result.val (PS.mk none 0 [])) ∧ t = (thEn Tq (pkb1 Tq))
def k20_Pick.j7.c (d : AD) (rd : DX) (n : Int) (K : Nat) (tv5_ : Nat → Value) (r1 : DX) (tv12_ : Nat → Value) (rx13_ : DX) (Tq : TR) (Xq : TX) (tv17_ : Nat → Value) (c18_ : Nat) (sp18_ : List Value) (tv20_ : Nat → Value) (tv22_ : Nat → Value) (tv24_ : Nat → Value) (x_ : Bool × (Nat → Value)) : St := match x_ with | ⟨q, tv_⟩ => ⟨[some ⟨true, 41, (encD ((m20Step (m20P1 d n) n).1) rx13_).map .v⟩, some ⟨true, 41, (encD (AD.mk (RW.mk ⟨0, 0, 0, 0, 0⟩ [] 0 (RB.mk ⟨0, 0, 0, 0, 0⟩ [] [] [] [] [])) [] [] 0) (DX.mk (RX.mk none 0 (RA.mk none none none none none 0 0 0 0 0)) none 0 [] none 0 [])).map .v⟩, some ⟨true, 41, (encD ((m20Step (m20P1 d n) n).1) rx13_).map .v⟩, some ⟨true, 87, (encT (thEn Tq (pkb1 Tq)) Xq).map .v⟩, none, some ⟨true, 54, (List.flatMap evE (evEn (evSt rx13_.es Tq.event ((m20Step (m20P1 d n) n).2)) Tq.event (pkb1 Tq) d.time Tq.call.result.err Tq.call.result.done Tq.call.result.val (PS.mk none 0 [])) ++ sp18_).map .v⟩], tvl tv_ 146 [(1, .v (.int .i64 n)), (2, .ad 0 0), (4, .ad 1 0), (5, .v (.bool false)), (6, .v (.int .i64 d.time)), (9, .ad 3 0), (10, .sl 5 (evEn (evSt rx13_.es Tq.event ((m20Step (m20P1 d n) n).2)) Tq.event (pkb1 Tq) d.time Tq.call.result.err Tq.call.result.done Tq.call.result.val (PS.mk none 0 [])).length c18_), (120, .v (.bool q))]⟩
def k20_Pick.j7.r (d : AD) (rd : DX) (n : Int) (K : Nat) (tv5_ : Nat → Value) (r1 : DX) (tv12_ : Nat → Value) (rx13_ : DX) (Tq : TR) (Xq : TX) (tv17_ : Nat → Value) (c18_ : Nat) (sp18_ : List Value) (tv20_ : Nat → Value) (tv22_ : Nat → Value) (tv24_ : Nat → Value) (x_ : Bool × (Nat → Value)) : List PRep := match x_ with | ⟨q, tv_⟩ => [tRep Tq Xq, dRep ((m20Step (m20P1 d n) n).1) rx13_, dRep (m20P1 d n) r1]
def k20_Pick.j7.i (d : AD) (rd : DX) (n : Int) (K : Nat) (tv5_ : Nat → Value) (r1 : DX) (tv12_ : Nat → Value) (rx13_ : DX) (Tq : TR) (Xq : TX) (tv17_ : Nat → Value) (c18_ : Nat) (sp18_ : List Value) (tv20_ : Nat → Value) (tv22_ : Nat → Value) (tv24_ : Nat → Value) (x_ : Bool × (Nat → Value)) : Prop := match x_ with | ⟨q, tv_⟩ => q = (pkb2 (thEn Tq (pkb1 Tq)))
def k20_Pick.j8.c (d : AD) (rd : DX) (n : Int) (K : Nat) (tv5_ : Nat → Value) (r1 : DX) (tv12_ : Nat → Value) (rx13_ : DX) (Tq : TR) (Xq : TX) (tv17_ : Nat → Value) (c18_ : Nat) (sp18_ : List Value) (tv20_ : Nat → Value) (tv22_ : Nat → Value) (tv24_ : Nat → Value) (tv26_ : Nat → Value) (x_ : (List EV) × TR × (Nat → Value)) : St := match x_ with | ⟨l, t, tv_⟩ => ⟨[some ⟨true, 41, (encD ((m20Step (m20P1 d n) n).1) rx13_).map .v⟩, some ⟨true, 41, (encD (AD.mk (RW.mk ⟨0, 0, 0, 0, 0⟩ [] 0 (RB.mk ⟨0, 0, 0, 0, 0⟩ [] [] [] [] [])) [] [] 0) (DX.mk (RX.mk none 0 (RA.mk none none none none none 0 0 0 0 0)) none 0 [] none 0 [])).map .v⟩, some ⟨true, 41, (encD ((m20Step (m20P1 d n) n).1) rx13_).map .v⟩, some ⟨true, 87, (encT t Xq).map .v⟩, none, some ⟨true, 54, (List.flatMap evE l ++ sp18_).map .v⟩], tvl tv_ 146 [(1, .v (.int .i64 n)), (2, .ad 0 0), (4, .ad 1 0), (5, .v (.bool false)), (6, .v (.int .i64 d.time)), (9, .ad 3 0), (10, .sl 5 l.length c18_)]⟩
def k20_Pick.j8.r (d : AD) (rd : DX) (n : Int) (K : Nat) (tv5_ : Nat → Value) (r1 : DX) (tv12_ : Nat → Value) (rx13_ : DX) (Tq : TR) (Xq : TX) (tv17_ : Nat → Value) (c18_ : Nat) (sp18_ : List Value) (tv20_ : Nat → Value) (tv22_ : Nat → Value) (tv24_ : Nat → Value) (tv26_ : Nat → Value) (x_ : (List EV) × TR × (Nat → Value)) : List PRep := match x_ with | ⟨l, t, tv_⟩ => [tRep Tq Xq, dRep ((m20Step (m20P1 d n) n).1) rx13_, dRep (m20P1 d n) r1]
def k20_Pick.j8.i (d : AD) (rd : DX) (n : Int) (K : Nat) (tv5_ : Nat → Value) (r1 : DX) (tv12_ : Nat → Value) (rx13_ : DX) (Tq : TR) (Xq : TX) (tv17_ : Nat → Value) (c18_ : Nat) (sp18_ : List Value) (tv20_ : Nat → Value) (tv22_ : Nat → Value) (tv24_ : Nat → Value) (tv26_ : Nat → Value) (x_ : (List EV) × TR × (Nat → Value)) : Prop := match x_ with | ⟨l, t, tv_⟩ => l = (evEn (evEn (evSt rx13_.es Tq.event ((m20Step (m20P1 d n) n).2)) Tq.event (pkb1 Tq) d.time Tq.call.result.err Tq.call.result.done Tq.call.result.val (PS.mk none 0 [])) (thEn Tq (pkb1 Tq)).event (pkb2 (thEn Tq (pkb1 Tq))) d.time (thEn Tq (pkb1 Tq)).scan.err (thEn Tq (pkb1 Tq)).scan.rdone (thEn Tq (pkb1 Tq)).scan.rval Xq.sx.pr) ∧ t = (thEn (thEn Tq (pkb1 Tq)) (pkb2 (thEn Tq (pkb1 Tq))))
theorem k20_Pick (d : AD) (rd : DX) (n : Int) (K : Nat) (hK : K ≤ 998) (hp : 0 ≤ (rd.l.getD n.toNat zTH).t.next ∧ (rd.l.getD n.toNat zTH).t.next ≤ ((rd.l.getD n.toNat zTH).t.prog.length : Int)) (hc : 0 ≤ d.w.c.f1 ∧ d.w.c.f1 ≤ 64) (he : rd.es.length ≤ 999999) (hM : MXle rd.l K) (hv : m20Out d n = false → 0 ≤ ((m20Step (m20P1 d n) n).1.ts.getD n.toNat zTR).event ∧ ((m20Step (m20P1 d n) n).1.ts.getD n.toNat zTR).event < ((m20Step (m20P1 d n) n).1.es.length : Int)) (W : World) (hW : DAt W d rd) : Calls Try.prog 14 #[.agg (encD d rd).toArray, .int .i64 n] W (fun e W' => ∃ r0 : DX, e = .returned (.tuple #[.agg (encD ((m20Pick d n).1) r0).toArray, .bool (m20Pick d n).2]) ∧ DAt W' (m20Pick d n).1 r0 ∧ FreshIn [dRep d rd] W (dRep (m20Pick d n).1 r0) ∧ r0.l.length = rd.l.length ∧ MXle r0.l (K + 1) ∧ Below W.heap.size W W') := by
 refine rf_enter (args := [.agg (encD d rd).toArray, .int .i64 n]) [dRep d rd] Try.func14 rfl (by intro r hr; obtain rfl := List.mem_singleton.mp hr; exact hW) ?_
 refine rX 14 ?_
 refine qK (k20_Pick.j1.c d rd n K) (k20_Pick.j1.r d rd n K) (k20_Pick.j1.i d rd n K) ?_ ?_
 ·refine qD k20_Pick.T2 [0, 1, 3, 7, 7, 23, 55, 127, 255, 511, 1023, 2047, 1023, 8191, 16383, 32767, 65535, 131071, 262143, 524287, 262143, 2097151, 4194303, 8388607, 262143, 17039359, 262143, 117702655, 251920383, 520355839, 1057226751, 2147483647, 4294967295, 8589934591] [] [0] [] ?_
  refine rO [0, 1, 2] ?_
  refine rZ 3 ?_
  refine qS 15 (decide (n < 0)) (fun h1 => ?_) (fun h1 => ?_)
  ·refine rO [3, 4, 5, 6, 7, 8, 9, 10, 11, 12, 13, 14, 15, 16, 17, 18, 19, 20, 21, 22, 23, 24, 25, 26, 27, 28, 29, 30, 31, 32, 33] ?_
   refine rZ 32 ?_
   refine rG [1, 2, 4, 5, 6, 46] (fun tv_ => ?_)
   exact qJ (k20_Pick.j1.c d rd n K) (k20_Pick.j1.r d rd n K) (k20_Pick.j1.i d rd n K) ⟨true, tv_⟩ (by show true = (m20Out d n); unfold m20Out; simp only [← hW.tt, ← hW.tl, h1, cond_true, cond_false]) (by simp [k20_Pick.j1.r])
  ·refine rO [3, 4, 5, 6, 7, 8, 9] ?_
   refine rZ 7 ?_
   refine qS 22 (decide (n ≥ (rd.l.length : Int))) (fun h2 => ?_) (fun h2 => ?_)
   ·refine rO [10, 11, 12, 13, 14, 15, 16, 17, 18, 19, 20, 21, 22, 23, 24, 25, 26, 27, 28, 29, 30, 31, 32, 33] ?_
    refine rZ 25 ?_
    refine rG [1, 2, 4, 5, 6, 46] (fun tv_ => ?_)
    exact qJ (k20_Pick.j1.c d rd n K) (k20_Pick.j1.r d rd n K) (k20_Pick.j1.i d rd n K) ⟨true, tv_⟩ (by show true = (m20Out d n); unfold m20Out; simp only [← hW.tt, ← hW.tl, h1, h2, cond_true, cond_false]) (by simp [k20_Pick.j1.r])
   ·refine rO [10, 11, 12, 13, 14, 15, 16, 17] ?_
    refine rZ 3 ?_
    refine rK (p := ∃ ad, rd.A = some ad) (fun W_ hR_ => row_some (dget hR_ 0 rfl).m (by rw [flat_len thE_len]; exact Nat.mul_pos (by have b0_ := oF h1; have b1_ := oF h2; have p0_ := hp; have p1_ := he; omega) (by decide))) ?_
    rintro ⟨ad3_, had3_⟩
    refine qX (t := 38) (e := 87) (s := 143) (b := 1160) (A := rd.A) (n := rd.l.length) (c := rd.C) (k := .i64) (i := n) ad3_ had3_ (by have b0_ := oF h1; have b1_ := oF h2; have p0_ := hp; have p1_ := he; omega) (by have b0_ := oF h1; have b1_ := oF h2; have p0_ := hp; have p1_ := he; omega) ?_
    refine rZ 1 ?_
    refine qL (t := 3) (p := .pointer (some ((ad3_.add (Int.toNat n * 143)).add 3))) (v := .int .i64 (rd.l.getD n.toNat zTH).t.going) [dRep d rd] (fun w_ hR_ => by rw [Addr.add_add]; exact row1' te_ok (sz := 143) (d := zTH) rfl (by rw [← had3_]; exact (dget hR_ 0 rfl).m) thE_len (o := 3) (by decide) (by have b0_ := oF h1; have b1_ := oF h2; have p0_ := hp; have p1_ := he; omega) (.int .i64 (rd.l.getD n.toNat zTH).t.going) (by kernel_rfl) rfl) ?_
    refine rZ 2 ?_
    refine qS 30 ((rd.l.getD n.toNat zTH).t.going == 0) (fun h4 => ?_) (fun h4 => ?_)
    ·refine rO [18, 19, 20, 21, 22, 23, 24, 25, 26, 27, 28, 29, 30, 31, 32, 33] ?_
     refine rZ 3 ?_
     refine qX (t := 38) (e := 87) (s := 143) (b := 1160) (A := rd.A) (n := rd.l.length) (c := rd.C) (k := .i64) (i := n) ad3_ had3_ (by have b0_ := oF h1; have b1_ := oF h2; have p0_ := hp; have p1_ := he; omega) (by have b0_ := oF h1; have b1_ := oF h2; have p0_ := hp; have p1_ := he; omega) ?_
     refine rZ 1 ?_
     refine qL (t := 3) (p := .pointer (some ((ad3_.add (Int.toNat n * 143)).add 1))) (v := .int .i64 (rd.l.getD n.toNat zTH).t.next) [dRep d rd] (fun w_ hR_ => by rw [Addr.add_add]; exact row1' te_ok (sz := 143) (d := zTH) rfl (by rw [← had3_]; exact (dget hR_ 0 rfl).m) thE_len (o := 1) (by decide) (by have b0_ := oF h1; have b1_ := oF h2; have p0_ := hp; have p1_ := he; omega) (.int .i64 (rd.l.getD n.toNat zTH).t.next) (by kernel_rfl) rfl) ?_
     refine rZ 3 ?_
     refine qX (t := 38) (e := 87) (s := 143) (b := 1160) (A := rd.A) (n := rd.l.length) (c := rd.C) (k := .i64) (i := n) ad3_ had3_ (by have b0_ := oF h1; have b1_ := oF h2; have p0_ := hp; have p1_ := he; omega) (by have b0_ := oF h1; have b1_ := oF h2; have p0_ := hp; have p1_ := he; omega) ?_
     refine rZ 1 ?_
     refine qL (t := 58) (p := .pointer (some ((ad3_.add (Int.toNat n * 143)).add 0))) (v := .slice (rd.l.getD n.toNat zTH).x.pa (rd.l.getD n.toNat zTH).t.prog.length (rd.l.getD n.toNat zTH).x.pc) [dRep d rd] (fun w_ hR_ => by rw [Addr.add_add]; exact row1' te_ok (sz := 143) (d := zTH) rfl (by rw [← had3_]; exact (dget hR_ 0 rfl).m) thE_len (o := 0) (by decide) (by have b0_ := oF h1; have b1_ := oF h2; have p0_ := hp; have p1_ := he; omega) (.slice (rd.l.getD n.toNat zTH).x.pa (rd.l.getD n.toNat zTH).t.prog.length (rd.l.getD n.toNat zTH).x.pc) (by kernel_rfl) rfl) ?_
     refine rZ 5 ?_
     refine rG [1, 2, 4, 5, 6, 46] (fun tv_ => ?_)
     exact qJ (k20_Pick.j1.c d rd n K) (k20_Pick.j1.r d rd n K) (k20_Pick.j1.i d rd n K) ⟨((rd.l.getD n.toNat zTH).t.next == ((rd.l.getD n.toNat zTH).t.prog.length : Int)), tv_⟩ (by show ((rd.l.getD n.toNat zTH).t.next == ((rd.l.getD n.toNat zTH).t.prog.length : Int)) = (m20Out d n); unfold m20Out; simp only [← hW.tt, ← hW.tl, h1, h2, h4, cond_true, cond_false]) (by simp [k20_Pick.j1.r])
    ·refine rO [18, 19, 20, 21, 22, 23, 24, 25, 26, 27, 28, 29, 30, 31, 32, 33] ?_
     refine rZ 17 ?_
     refine rG [1, 2, 4, 5, 6, 46] (fun tv_ => ?_)
     exact qJ (k20_Pick.j1.c d rd n K) (k20_Pick.j1.r d rd n K) (k20_Pick.j1.i d rd n K) ⟨false, tv_⟩ (by show false = (m20Out d n); unfold m20Out; simp only [← hW.tt, ← hW.tl, h1, h2, h4, cond_true, cond_false]) (by simp [k20_Pick.j1.r])
 ·rintro ⟨q, tv5_⟩ rfl
  refine qI (m20Out d n) (fun h6 => ?_) (fun h6 => ?_)
  ·refine rZ 13 ?_
   have hm_ : m20Pick d n = ((AD.mk d.w d.ts d.es (IntKind.i64.wrap (d.time + 1))), false) := by unfold m20Pick; rw [h6]; rfl
   refine qR [.agg (encD (AD.mk d.w d.ts d.es (IntKind.i64.wrap (d.time + 1))) (DX.mk rd.x rd.A rd.C rd.l rd.eA rd.eC rd.es)).toArray, .bool false] (fun W1_ hT_ hR_ hF_ => ?_)
   rw [hm_]
   exact ⟨(DX.mk rd.x rd.A rd.C rd.l rd.eA rd.eC rd.es), rfl, ⟨(dget hR_ 0 rfl).w, (dget hR_ 0 rfl).m, (dget hR_ 0 rfl).l, (dget hR_ 0 rfl).n, (dget hR_ 0 rfl).dd, (dget hR_ 0 rfl).me, (dget hR_ 0 rfl).le, (dget hR_ 0 rfl).ne, (dget hR_ 0 rfl).de, (dget hR_ 0 rfl).tm, (dget hR_ 0 rfl).em⟩, (fun k_ => (fun h_ => h_.elim (fun h_ => hF_ _ (mG 0 rfl) k_ (.inl h_)) (fun h_ => h_.elim (fun h_ => hF_ _ (mG 0 rfl) k_ (.inr (.inl h_))) (fun h_ => h_.elim (fun h_ => hF_ _ (mG 0 rfl) k_ (.inr (.inr (.inl h_)))) (fun h_ => h_.elim (fun h_ => hF_ _ (mG 0 rfl) k_ (.inr (.inr (.inr (.inl h_))))) (fun h_ => hF_ _ (mG 0 rfl) k_ (.inr (.inr (.inr (.inr h_)))))))))), (by first | rfl | exact (True.intro).trans ((True.intro).trans hl1_)), (by first | exact hM.mono (Nat.le_succ _) | exact (True.intro) (K + 1) (by rw [hXq_]; exact MXle.get ((True.intro) K hM1_) _) ((True.intro) K hM1_)), hT_.below⟩
  ·refine rZ 7 ?_
   refine rK (p := ∃ ad, rd.A = some ad) (fun W_ hR_ => row_some (dget hR_ 0 rfl).m (by rw [flat_len thE_len]; exact Nat.mul_pos (by have p0_ := hp; have p1_ := he; have o_ := out_nr hW.dm h6; omega) (by decide))) ?_
   rintro ⟨ad7_, had7_⟩
   refine qX (t := 38) (e := 87) (s := 143) (b := 1160) (A := rd.A) (n := rd.l.length) (c := rd.C) (k := .i64) (i := n) ad7_ had7_ (by have p0_ := hp; have p1_ := he; have o_ := out_nr hW.dm h6; omega) (by have p0_ := hp; have p1_ := he; have o_ := out_nr hW.dm h6; omega) ?_
   refine rZ 1 ?_
   refine qL (t := 3) (p := .pointer (some ((ad7_.add (Int.toNat n * 143)).add 3))) (v := .int .i64 (rd.l.getD n.toNat zTH).t.going) [dRep d rd] (fun w_ hR_ => by rw [Addr.add_add]; exact row1' te_ok (sz := 143) (d := zTH) rfl (by rw [← had7_]; exact (dget hR_ 0 rfl).m) thE_len (o := 3) (by decide) (by have p0_ := hp; have p1_ := he; have o_ := out_nr hW.dm h6; omega) (.int .i64 (rd.l.getD n.toNat zTH).t.going) (by kernel_rfl) rfl) ?_
   refine rZ 2 ?_
   refine qK (k20_Pick.j2.c d rd n K tv5_) (k20_Pick.j2.r d rd n K tv5_) (k20_Pick.j2.i d rd n K tv5_) ?_ ?_
   ·refine qI ((rd.l.getD n.toNat zTH).t.going == 0) (fun h8 => ?_) (fun h8 => ?_)
    ·refine rZ 3 ?_
     refine qC [.agg (encD d rd).toArray, .int .i64 n] fun W_ hT_ hR_ => (k20_begin d rd n (by have p0_ := hp; have p1_ := he; have o_ := out_nr hW.dm h6; have o1_ := out_np hW.dm h6 h8; omega) (by have p0_ := hp; have p1_ := he; have o_ := out_nr hW.dm h6; have o1_ := out_np hW.dm h6 h8; omega) hc (by omega) _ (dget hR_ 0 rfl)).mono ?_
     rintro e_ W1_ ⟨rx9_, rfl, hw9_, hf9_, he10_, he11_, hb_⟩
     refine ⟨_, [dRep (m20Begin d n) rx9_], rfl, hb_, (NewOk.cons hw9_ (hf9_.one (fun k_ => (fun h_ => ⟨_, mG 0 rfl, h_⟩))) NewOk.nil), ?_⟩
     refine rZ 2 ?_
     refine rG [1, 2, 4, 5, 6] (fun tv_ => ?_)
     exact qJ (k20_Pick.j2.c d rd n K tv5_) (k20_Pick.j2.r d rd n K tv5_) (k20_Pick.j2.i d rd n K tv5_) ⟨(m20Begin d n), rx9_, tv_⟩ ⟨(by unfold m20P1; rw [← hW.tt, h8]; rfl), he10_, he11_ K hM, hw9_.dm⟩ (by simp [k20_Pick.j2.r, k20_Pick.j1.r])
    ·refine rZ 1 ?_
     refine rG [1, 2, 4, 5, 6] (fun tv_ => ?_)
     exact qJ (k20_Pick.j2.c d rd n K tv5_) (k20_Pick.j2.r d rd n K tv5_) (k20_Pick.j2.i d rd n K tv5_) ⟨d, rd, tv_⟩ ⟨(by unfold m20P1; rw [← hW.tt, h8]; rfl), rfl, hM, hW.dm⟩ (by simp [k20_Pick.j2.r, k20_Pick.j1.r])
   ·rintro ⟨d1, r1, tv12_⟩ ⟨rfl, hl1_, hM1_, hdm1_⟩
    refine rZ 4 ?_
    refine qC [.agg (encD (m20P1 d n) r1).toArray, .int .i64 n] fun W_ hT_ hR_ => (k20_step (m20P1 d n) r1 n (by have p0_ := hp; have p1_ := he; have o_ := out_nr hW.dm h6; omega) (Nat.le_trans (hM1_.get _) (by omega)) _ (dget hR_ 0 rfl)).mono ?_
    rintro e_ W1_ ⟨rx13_, rfl, hw13_, hf13_, he14_, he15_, hb_⟩
    refine ⟨_, [dRep ((m20Step (m20P1 d n) n).1) rx13_], rfl, hb_, (NewOk.cons hw13_ (hf13_.one (fun k_ => (fun h_ => ⟨_, mG 0 rfl, h_⟩))) NewOk.nil), ?_⟩
    refine rZ 13 ?_
    refine qK (k20_Pick.j3.c d rd n K tv5_ r1 tv12_ rx13_) (k20_Pick.j3.r d rd n K tv5_ r1 tv12_ rx13_) (k20_Pick.j3.i d rd n K tv5_ r1 tv12_ rx13_) ?_ ?_
    ·refine rZ 4 ?_
     refine rK (p := ∃ ad, rx13_.A = some ad) (fun W_ hR_ => row_some (dget hR_ 0 rfl).m (by rw [flat_len thE_len]; exact Nat.mul_pos (by have p0_ := hp; have p1_ := he; have o_ := out_nr hW.dm h6; have ev_ := hv h6; rw [← hw13_.tt, ← hw13_.ell] at ev_; have ea := thEn_ev (rx13_.l.getD n.toNat zTH).t (pkb1 (rx13_.l.getD n.toNat zTH).t); omega) (by decide))) ?_
     rintro ⟨ad16_, had16_⟩
     refine qX (t := 38) (e := 87) (s := 143) (b := 1160) (A := rx13_.A) (n := rx13_.l.length) (c := rx13_.C) (k := .i64) (i := n) ad16_ had16_ (by have p0_ := hp; have p1_ := he; have o_ := out_nr hW.dm h6; have ev_ := hv h6; rw [← hw13_.tt, ← hw13_.ell] at ev_; have ea := thEn_ev (rx13_.l.getD n.toNat zTH).t (pkb1 (rx13_.l.getD n.toNat zTH).t); omega) (by have p0_ := hp; have p1_ := he; have o_ := out_nr hW.dm h6; have ev_ := hv h6; rw [← hw13_.tt, ← hw13_.ell] at ev_; have ea := thEn_ev (rx13_.l.getD n.toNat zTH).t (pkb1 (rx13_.l.getD n.toNat zTH).t); omega) ?_
     refine qL (t := 87) (p := .pointer (some (ad16_.add (Int.toNat n * 143)))) (v := .agg (encT (rx13_.l.getD n.toNat zTH).t (rx13_.l.getD n.toNat zTH).x).toArray) [dRep ((m20Step (m20P1 d n) n).1) rx13_, dRep (m20P1 d n) r1] (fun w_ hR_ => by exact rowA' te_ok (sz := 143) (d := zTH) rfl (by rw [← had16_]; exact (dget hR_ 0 rfl).m) thE_len (o := 0) (by decide) (by have p0_ := hp; have p1_ := he; have o_ := out_nr hW.dm h6; have ev_ := hv h6; rw [← hw13_.tt, ← hw13_.ell] at ev_; have ea := thEn_ev (rx13_.l.getD n.toNat zTH).t (pkb1 (rx13_.l.getD n.toNat zTH).t); omega) (encT (rx13_.l.getD n.toNat zTH).t (rx13_.l.getD n.toNat zTH).x) (by kernel_rfl) (by kernel_rfl) (Nat.add_zero _).symm) ?_
     refine rZ 3 ?_
     refine rH (tRep (rx13_.l.getD n.toNat zTH).t (rx13_.l.getD n.toNat zTH).x) (fun W_ hR_ => ((dget hR_ 0 rfl).tg n.toNat)) (fun k_ => (fun h_ => ⟨_, mG 0 rfl, (.inr (.inr (.inl (tDeep_get h_))))⟩)) ?_
     refine rG [1, 2, 4, 5, 6, 8, 9] (fun tv_ => ?_)
     exact qJ (k20_Pick.j3.c d rd n K tv5_ r1 tv12_ rx13_) (k20_Pick.j3.r d rd n K tv5_ r1 tv12_ rx13_) (k20_Pick.j3.i d rd n K tv5_ r1 tv12_ rx13_) ⟨(rx13_.l.getD n.toNat zTH).t, (rx13_.l.getD n.toNat zTH).x, tv_⟩ ⟨rfl, rfl⟩ (by simp [k20_Pick.j3.r, k20_Pick.j1.r, k20_Pick.j2.r])
    ·rintro ⟨Tq, Xq, tv17_⟩ ⟨hTq_, hXq_⟩
     refine rZ 5 ?_
     refine rK (p := rx13_.es.length ≤ 1000000) (fun W_ hR_ => (dget hR_ 1 rfl).ne) (fun hs18_ => ?_)
     refine qA (t := 39) (e := 54) (size := 13) (by_ := 120) (i := 4) (n := 0) (c := 0) (x := .v (.slice rx13_.eA rx13_.es.length rx13_.eC)) (enc := evE) (sp := []) true [] rx13_.es rx13_.es evE_len evE_one rfl (by rfl) (Nat.le_refl _) (Nat.zero_le _) (by simp only [List.length_nil]; omega) rfl (fun γ_ W_ hk_ hB_ => by have hR_ : RepAt _ W_ := hB_.rep; exact news_row (dget hR_ 1 rfl).me (row_none (dget hR_ 1 rfl).me evE_len (by decide))) (fun c18_ sp18_ hall18_ hle18_ hmx18_ => ?_)
     refine rZ 7 ?_
     refine qK (k20_Pick.j4.c d rd n K tv5_ r1 tv12_ rx13_ Tq Xq tv17_ c18_ sp18_) (k20_Pick.j4.r d rd n K tv5_ r1 tv12_ rx13_ Tq Xq tv17_ c18_ sp18_) (k20_Pick.j4.i d rd n K tv5_ r1 tv12_ rx13_ Tq Xq tv17_ c18_ sp18_) ?_ ?_
     ·refine qI (m20Step (m20P1 d n) n).2 (fun h19 => ?_) (fun h19 => ?_)
      ·refine qD k20_Pick.T12 [0, 0, 2, 0, 0, 16, 56, 120, 248, 504, 1023, 2047, 4095] [12] [3, 5] [] ?_
       refine rO [0, 1, 2, 3, 4, 5, 6, 7, 8, 9, 10, 11, 12] ?_
       refine rZ 6 ?_
       refine qY (t := 39) (e := 54) (s := 13) (b := 120) (j := 5) (n := rx13_.es.length) (c := c18_) (k := .i64) (i := Tq.event) (by have p0_ := hp; have p1_ := he; have o_ := out_nr hW.dm h6; have ev_ := hv h6; rw [← hw13_.tt, ← hTq_, ← hw13_.ell] at ev_; have ea := thEn_ev Tq (pkb1 Tq); omega) (by have p0_ := hp; have p1_ := he; have o_ := out_nr hW.dm h6; have ev_ := hv h6; rw [← hw13_.tt, ← hTq_, ← hw13_.ell] at ev_; have ea := thEn_ev Tq (pkb1 Tq); omega) ?_
       refine rZ 1 ?_
       refine qO (t := 3) (k := 1) (j := 5) (of := (Int.toNat Tq.event * 13 + 4)) (b := ⟨true, 54, (List.flatMap evE rx13_.es ++ sp18_).map .v⟩) (.v (.int .i64 (rx13_.es.getD Tq.event.toNat zEV).e.steps)) (own1' evE_len (o := 4) (d := zEV) (by decide) (by have p0_ := hp; have p1_ := he; have o_ := out_nr hW.dm h6; have ev_ := hv h6; rw [← hw13_.tt, ← hTq_, ← hw13_.ell] at ev_; have ea := thEn_ev Tq (pkb1 Tq); omega) (.int .i64 (rx13_.es.getD Tq.event.toNat zEV).e.steps) (by kernel_rfl) rfl) trivial ?_
       refine rZ 1 ?_
       refine qY (t := 39) (e := 54) (s := 13) (b := 120) (j := 5) (n := rx13_.es.length) (c := c18_) (k := .i64) (i := Tq.event) (by have p0_ := hp; have p1_ := he; have o_ := out_nr hW.dm h6; have ev_ := hv h6; rw [← hw13_.tt, ← hTq_, ← hw13_.ell] at ev_; have ea := thEn_ev Tq (pkb1 Tq); omega) (by have p0_ := hp; have p1_ := he; have o_ := out_nr hW.dm h6; have ev_ := hv h6; rw [← hw13_.tt, ← hTq_, ← hw13_.ell] at ev_; have ea := thEn_ev Tq (pkb1 Tq); omega) ?_
       refine rZ 2 ?_
       refine qW (t := 3) (k := 1) (j := 5) (of := (Int.toNat Tq.event * 13 + 4)) (e := 54) (ag := false) (x := .v (.int .i64 (IntKind.i64.wrap ((rx13_.es.getD Tq.event.toNat zEV).e.steps + 1)))) (cs := (List.flatMap evE rx13_.es ++ sp18_).map .v) false ((List.flatMap evE (rx13_.es.set Tq.event.toNat (EV.mk (EA.mk (rx13_.es.getD Tq.event.toNat zEV).e.thread (rx13_.es.getD Tq.event.toNat zEV).e.index (rx13_.es.getD Tq.event.toNat zEV).e.begin_ (rx13_.es.getD Tq.event.toNat zEV).e.end_ (IntKind.i64.wrap ((rx13_.es.getD Tq.event.toNat zEV).e.steps + 1)) (rx13_.es.getD Tq.event.toNat zEV).e.call (rx13_.es.getD Tq.event.toNat zEV).e.err (rx13_.es.getD Tq.event.toNat zEV).e.done (rx13_.es.getD Tq.event.toNat zEV).e.val) (rx13_.es.getD Tq.event.toNat zEV).pr)) ++ sp18_).map .v) (ownIn' evE_len (o := 4) (k := 1) (by decide) (by (try simp only [List.length_set]); have p0_ := hp; have p1_ := he; have o_ := out_nr hW.dm h6; have ev_ := hv h6; rw [← hw13_.tt, ← hTq_, ← hw13_.ell] at ev_; have ea := thEn_ev Tq (pkb1 Tq); omega) rfl) (ownPut' evE_len (o := 4) (k := 1) (d := zEV) ([.int .i64 (IntKind.i64.wrap ((rx13_.es.getD Tq.event.toNat zEV).e.steps + 1))]) (by kernel_rfl) (by decide) (by (try simp only [List.length_set]); have p0_ := hp; have p1_ := he; have o_ := out_nr hW.dm h6; have ev_ := hv h6; rw [← hw13_.tt, ← hTq_, ← hw13_.ell] at ev_; have ea := thEn_ev Tq (pkb1 Tq); omega) (EV.mk (EA.mk (rx13_.es.getD Tq.event.toNat zEV).e.thread (rx13_.es.getD Tq.event.toNat zEV).e.index (rx13_.es.getD Tq.event.toNat zEV).e.begin_ (rx13_.es.getD Tq.event.toNat zEV).e.end_ (IntKind.i64.wrap ((rx13_.es.getD Tq.event.toNat zEV).e.steps + 1)) (rx13_.es.getD Tq.event.toNat zEV).e.call (rx13_.es.getD Tq.event.toNat zEV).e.err (rx13_.es.getD Tq.event.toNat zEV).e.done (rx13_.es.getD Tq.event.toNat zEV).e.val) (rx13_.es.getD Tq.event.toNat zEV).pr) (by kernel_rfl) rfl rfl (by kernel_rfl)) ?_ (hld := (fun h_ => by cases h_))
       refine qP 10 (.sl 5 (rx13_.es.set Tq.event.toNat (EV.mk (EA.mk (rx13_.es.getD Tq.event.toNat zEV).e.thread (rx13_.es.getD Tq.event.toNat zEV).e.index (rx13_.es.getD Tq.event.toNat zEV).e.begin_ (rx13_.es.getD Tq.event.toNat zEV).e.end_ (IntKind.i64.wrap ((rx13_.es.getD Tq.event.toNat zEV).e.steps + 1)) (rx13_.es.getD Tq.event.toNat zEV).e.call (rx13_.es.getD Tq.event.toNat zEV).e.err (rx13_.es.getD Tq.event.toNat zEV).e.done (rx13_.es.getD Tq.event.toNat zEV).e.val) (rx13_.es.getD Tq.event.toNat zEV).pr)).length c18_) (by rw [List.length_set]) ?_
       refine qP 76 (.sl 5 (rx13_.es.set Tq.event.toNat (EV.mk (EA.mk (rx13_.es.getD Tq.event.toNat zEV).e.thread (rx13_.es.getD Tq.event.toNat zEV).e.index (rx13_.es.getD Tq.event.toNat zEV).e.begin_ (rx13_.es.getD Tq.event.toNat zEV).e.end_ (IntKind.i64.wrap ((rx13_.es.getD Tq.event.toNat zEV).e.steps + 1)) (rx13_.es.getD Tq.event.toNat zEV).e.call (rx13_.es.getD Tq.event.toNat zEV).e.err (rx13_.es.getD Tq.event.toNat zEV).e.done (rx13_.es.getD Tq.event.toNat zEV).e.val) (rx13_.es.getD Tq.event.toNat zEV).pr)).length c18_) (by rw [List.length_set]) ?_
       refine rZ 1 ?_
       refine rG [1, 2, 4, 5, 6, 9, 10] (fun tv_ => ?_)
       exact qJ (k20_Pick.j4.c d rd n K tv5_ r1 tv12_ rx13_ Tq Xq tv17_ c18_ sp18_) (k20_Pick.j4.r d rd n K tv5_ r1 tv12_ rx13_ Tq Xq tv17_ c18_ sp18_) (k20_Pick.j4.i d rd n K tv5_ r1 tv12_ rx13_ Tq Xq tv17_ c18_ sp18_) ⟨(rx13_.es.set Tq.event.toNat (EV.mk (EA.mk (rx13_.es.getD Tq.event.toNat zEV).e.thread (rx13_.es.getD Tq.event.toNat zEV).e.index (rx13_.es.getD Tq.event.toNat zEV).e.begin_ (rx13_.es.getD Tq.event.toNat zEV).e.end_ (IntKind.i64.wrap ((rx13_.es.getD Tq.event.toNat zEV).e.steps + 1)) (rx13_.es.getD Tq.event.toNat zEV).e.call (rx13_.es.getD Tq.event.toNat zEV).e.err (rx13_.es.getD Tq.event.toNat zEV).e.done (rx13_.es.getD Tq.event.toNat zEV).e.val) (rx13_.es.getD Tq.event.toNat zEV).pr)), tv_⟩ (evSt_t h19).symm (by simp [k20_Pick.j4.r, k20_Pick.j1.r, k20_Pick.j2.r, k20_Pick.j3.r])
      ·refine rZ 1 ?_
       refine rG [1, 2, 4, 5, 6, 9, 10] (fun tv_ => ?_)
       exact qJ (k20_Pick.j4.c d rd n K tv5_ r1 tv12_ rx13_ Tq Xq tv17_ c18_ sp18_) (k20_Pick.j4.r d rd n K tv5_ r1 tv12_ rx13_ Tq Xq tv17_ c18_ sp18_) (k20_Pick.j4.i d rd n K tv5_ r1 tv12_ rx13_ Tq Xq tv17_ c18_ sp18_) ⟨rx13_.es, tv_⟩ (evSt_f h19).symm (by simp [k20_Pick.j4.r, k20_Pick.j1.r, k20_Pick.j2.r, k20_Pick.j3.r])
     ·rintro ⟨l, tv20_⟩ rfl
      refine rZ 2 ?_
      refine qK (k20_Pick.j5.c d rd n K tv5_ r1 tv12_ rx13_ Tq Xq tv17_ c18_ sp18_ tv20_) (k20_Pick.j5.r d rd n K tv5_ r1 tv12_ rx13_ Tq Xq tv17_ c18_ sp18_ tv20_) (k20_Pick.j5.i d rd n K tv5_ r1 tv12_ rx13_ Tq Xq tv17_ c18_ sp18_ tv20_) ?_ ?_
      ·refine rZ 5 ?_
       refine qS 93 (Tq.going == 1) (fun h21 => ?_) (fun h21 => ?_)
       ·refine rZ 5 ?_
        refine rG [1, 2, 4, 5, 6, 9, 10, 97] (fun tv_ => ?_)
        exact qJ (k20_Pick.j5.c d rd n K tv5_ r1 tv12_ rx13_ Tq Xq tv17_ c18_ sp18_ tv20_) (k20_Pick.j5.r d rd n K tv5_ r1 tv12_ rx13_ Tq Xq tv17_ c18_ sp18_ tv20_) (k20_Pick.j5.i d rd n K tv5_ r1 tv12_ rx13_ Tq Xq tv17_ c18_ sp18_ tv20_) ⟨Tq.call.done, tv_⟩ (by show Tq.call.done = (pkb1 Tq); unfold pkb1; simp only [h6, h21, cond_true, cond_false]) (by simp [k20_Pick.j5.r, k20_Pick.j1.r, k20_Pick.j2.r, k20_Pick.j3.r, k20_Pick.j4.r])
       ·refine rZ 5 ?_
        refine rG [1, 2, 4, 5, 6, 9, 10, 97] (fun tv_ => ?_)
        exact qJ (k20_Pick.j5.c d rd n K tv5_ r1 tv12_ rx13_ Tq Xq tv17_ c18_ sp18_ tv20_) (k20_Pick.j5.r d rd n K tv5_ r1 tv12_ rx13_ Tq Xq tv17_ c18_ sp18_ tv20_) (k20_Pick.j5.i d rd n K tv5_ r1 tv12_ rx13_ Tq Xq tv17_ c18_ sp18_ tv20_) ⟨false, tv_⟩ (by show false = (pkb1 Tq); unfold pkb1; simp only [h6, h21, cond_true, cond_false]) (by simp [k20_Pick.j5.r, k20_Pick.j1.r, k20_Pick.j2.r, k20_Pick.j3.r, k20_Pick.j4.r])
      ·rintro ⟨q, tv22_⟩ rfl
       refine qK (k20_Pick.j6.c d rd n K tv5_ r1 tv12_ rx13_ Tq Xq tv17_ c18_ sp18_ tv20_ tv22_) (k20_Pick.j6.r d rd n K tv5_ r1 tv12_ rx13_ Tq Xq tv17_ c18_ sp18_ tv20_ tv22_) (k20_Pick.j6.i d rd n K tv5_ r1 tv12_ rx13_ Tq Xq tv17_ c18_ sp18_ tv20_ tv22_) ?_ ?_
       ·refine qI (pkb1 Tq) (fun h23 => ?_) (fun h23 => ?_)
        ·refine rZ 6 ?_
         refine qY (t := 39) (e := 54) (s := 13) (b := 120) (j := 5) (n := (evSt rx13_.es Tq.event ((m20Step (m20P1 d n) n).2)).length) (c := c18_) (k := .i64) (i := Tq.event) (by (try simp only [evSt_len, evEn_len]); have p0_ := hp; have p1_ := he; have o_ := out_nr hW.dm h6; have ev_ := hv h6; rw [← hw13_.tt, ← hTq_, ← hw13_.ell] at ev_; have ea := thEn_ev Tq (pkb1 Tq); omega) (by (try simp only [evSt_len, evEn_len]); have p0_ := hp; have p1_ := he; have o_ := out_nr hW.dm h6; have ev_ := hv h6; rw [← hw13_.tt, ← hTq_, ← hw13_.ell] at ev_; have ea := thEn_ev Tq (pkb1 Tq); omega) ?_
         refine rZ 1 ?_
         refine qW (t := 3) (k := 1) (j := 5) (of := (Int.toNat Tq.event * 13 + 3)) (e := 54) (ag := false) (x := .v (.int .i64 d.time)) (cs := (List.flatMap evE (evSt rx13_.es Tq.event ((m20Step (m20P1 d n) n).2)) ++ sp18_).map .v) true ((List.flatMap evE ((evSt rx13_.es Tq.event ((m20Step (m20P1 d n) n).2)).set Tq.event.toNat (EV.mk (EA.mk ((evSt rx13_.es Tq.event ((m20Step (m20P1 d n) n).2)).getD Tq.event.toNat zEV).e.thread ((evSt rx13_.es Tq.event ((m20Step (m20P1 d n) n).2)).getD Tq.event.toNat zEV).e.index ((evSt rx13_.es Tq.event ((m20Step (m20P1 d n) n).2)).getD Tq.event.toNat zEV).e.begin_ d.time ((evSt rx13_.es Tq.event ((m20Step (m20P1 d n) n).2)).getD Tq.event.toNat zEV).e.steps ((evSt rx13_.es Tq.event ((m20Step (m20P1 d n) n).2)).getD Tq.event.toNat zEV).e.call ((evSt rx13_.es Tq.event ((m20Step (m20P1 d n) n).2)).getD Tq.event.toNat zEV).e.err ((evSt rx13_.es Tq.event ((m20Step (m20P1 d n) n).2)).getD Tq.event.toNat zEV).e.done ((evSt rx13_.es Tq.event ((m20Step (m20P1 d n) n).2)).getD Tq.event.toNat zEV).e.val) ((evSt rx13_.es Tq.event ((m20Step (m20P1 d n) n).2)).getD Tq.event.toNat zEV).pr)) ++ sp18_).map .v) (ownIn' evE_len (o := 3) (k := 1) (by decide) (by (try simp only [List.length_set, evSt_len, evEn_len]); have p0_ := hp; have p1_ := he; have o_ := out_nr hW.dm h6; have ev_ := hv h6; rw [← hw13_.tt, ← hTq_, ← hw13_.ell] at ev_; have ea := thEn_ev Tq (pkb1 Tq); omega) rfl) (ownPut' evE_len (o := 3) (k := 1) (d := zEV) ([.int .i64 d.time]) (by kernel_rfl) (by decide) (by (try simp only [List.length_set, evSt_len, evEn_len]); have p0_ := hp; have p1_ := he; have o_ := out_nr hW.dm h6; have ev_ := hv h6; rw [← hw13_.tt, ← hTq_, ← hw13_.ell] at ev_; have ea := thEn_ev Tq (pkb1 Tq); omega) (EV.mk (EA.mk ((evSt rx13_.es Tq.event ((m20Step (m20P1 d n) n).2)).getD Tq.event.toNat zEV).e.thread ((evSt rx13_.es Tq.event ((m20Step (m20P1 d n) n).2)).getD Tq.event.toNat zEV).e.index ((evSt rx13_.es Tq.event ((m20Step (m20P1 d n) n).2)).getD Tq.event.toNat zEV).e.begin_ d.time ((evSt rx13_.es Tq.event ((m20Step (m20P1 d n) n).2)).getD Tq.event.toNat zEV).e.steps ((evSt rx13_.es Tq.event ((m20Step (m20P1 d n) n).2)).getD Tq.event.toNat zEV).e.call ((evSt rx13_.es Tq.event ((m20Step (m20P1 d n) n).2)).getD Tq.event.toNat zEV).e.err ((evSt rx13_.es Tq.event ((m20Step (m20P1 d n) n).2)).getD Tq.event.toNat zEV).e.done ((evSt rx13_.es Tq.event ((m20Step (m20P1 d n) n).2)).getD Tq.event.toNat zEV).e.val) ((evSt rx13_.es Tq.event ((m20Step (m20P1 d n) n).2)).getD Tq.event.toNat zEV).pr) (by kernel_rfl) rfl rfl (by kernel_rfl)) ?_
         refine qP 10 (.sl 5 ((evSt rx13_.es Tq.event ((m20Step (m20P1 d n) n).2)).set Tq.event.toNat (EV.mk (EA.mk ((evSt rx13_.es Tq.event ((m20Step (m20P1 d n) n).2)).getD Tq.event.toNat zEV).e.thread ((evSt rx13_.es Tq.event ((m20Step (m20P1 d n) n).2)).getD Tq.event.toNat zEV).e.index ((evSt rx13_.es Tq.event ((m20Step (m20P1 d n) n).2)).getD Tq.event.toNat zEV).e.begin_ d.time ((evSt rx13_.es Tq.event ((m20Step (m20P1 d n) n).2)).getD Tq.event.toNat zEV).e.steps ((evSt rx13_.es Tq.event ((m20Step (m20P1 d n) n).2)).getD Tq.event.toNat zEV).e.call ((evSt rx13_.es Tq.event ((m20Step (m20P1 d n) n).2)).getD Tq.event.toNat zEV).e.err ((evSt rx13_.es Tq.event ((m20Step (m20P1 d n) n).2)).getD Tq.event.toNat zEV).e.done ((evSt rx13_.es Tq.event ((m20Step (m20P1 d n) n).2)).getD Tq.event.toNat zEV).e.val) ((evSt rx13_.es Tq.event ((m20Step (m20P1 d n) n).2)).getD Tq.event.toNat zEV).pr)).length c18_) (by rw [List.length_set]) ?_
         refine rZ 9 ?_
         refine qY (t := 39) (e := 54) (s := 13) (b := 120) (j := 5) (n := ((evSt rx13_.es Tq.event ((m20Step (m20P1 d n) n).2)).set Tq.event.toNat (EV.mk (EA.mk ((evSt rx13_.es Tq.event ((m20Step (m20P1 d n) n).2)).getD Tq.event.toNat zEV).e.thread ((evSt rx13_.es Tq.event ((m20Step (m20P1 d n) n).2)).getD Tq.event.toNat zEV).e.index ((evSt rx13_.es Tq.event ((m20Step (m20P1 d n) n).2)).getD Tq.event.toNat zEV).e.begin_ d.time ((evSt rx13_.es Tq.event ((m20Step (m20P1 d n) n).2)).getD Tq.event.toNat zEV).e.steps ((evSt rx13_.es Tq.event ((m20Step (m20P1 d n) n).2)).getD Tq.event.toNat zEV).e.call ((evSt rx13_.es Tq.event ((m20Step (m20P1 d n) n).2)).getD Tq.event.toNat zEV).e.err ((evSt rx13_.es Tq.event ((m20Step (m20P1 d n) n).2)).getD Tq.event.toNat zEV).e.done ((evSt rx13_.es Tq.event ((m20Step (m20P1 d n) n).2)).getD Tq.event.toNat zEV).e.val) ((evSt rx13_.es Tq.event ((m20Step (m20P1 d n) n).2)).getD Tq.event.toNat zEV).pr)).length) (c := c18_) (k := .i64) (i := Tq.event) (by (try simp only [List.length_set, evSt_len, evEn_len]); have p0_ := hp; have p1_ := he; have o_ := out_nr hW.dm h6; have ev_ := hv h6; rw [← hw13_.tt, ← hTq_, ← hw13_.ell] at ev_; have ea := thEn_ev Tq (pkb1 Tq); omega) (by (try simp only [List.length_set, evSt_len, evEn_len]); have p0_ := hp; have p1_ := he; have o_ := out_nr hW.dm h6; have ev_ := hv h6; rw [← hw13_.tt, ← hTq_, ← hw13_.ell] at ev_; have ea := thEn_ev Tq (pkb1 Tq); omega) ?_
         refine rZ 1 ?_
         refine qW (t := 52) (k := 4) (j := 5) (of := (Int.toNat Tq.event * 13 + 9)) (e := 54) (ag := true) (x := .v (.agg #[.int .i64 Tq.call.result.err, .bool Tq.call.result.done, .int .u64 Tq.call.result.val, .slice none 0 0])) (cs := (List.flatMap evE ((evSt rx13_.es Tq.event ((m20Step (m20P1 d n) n).2)).set Tq.event.toNat (EV.mk (EA.mk ((evSt rx13_.es Tq.event ((m20Step (m20P1 d n) n).2)).getD Tq.event.toNat zEV).e.thread ((evSt rx13_.es Tq.event ((m20Step (m20P1 d n) n).2)).getD Tq.event.toNat zEV).e.index ((evSt rx13_.es Tq.event ((m20Step (m20P1 d n) n).2)).getD Tq.event.toNat zEV).e.begin_ d.time ((evSt rx13_.es Tq.event ((m20Step (m20P1 d n) n).2)).getD Tq.event.toNat zEV).e.steps ((evSt rx13_.es Tq.event ((m20Step (m20P1 d n) n).2)).getD Tq.event.toNat zEV).e.call ((evSt rx13_.es Tq.event ((m20Step (m20P1 d n) n).2)).getD Tq.event.toNat zEV).e.err ((evSt rx13_.es Tq.event ((m20Step (m20P1 d n) n).2)).getD Tq.event.toNat zEV).e.done ((evSt rx13_.es Tq.event ((m20Step (m20P1 d n) n).2)).getD Tq.event.toNat zEV).e.val) ((evSt rx13_.es Tq.event ((m20Step (m20P1 d n) n).2)).getD Tq.event.toNat zEV).pr)) ++ sp18_).map .v) true ((List.flatMap evE ((evSt rx13_.es Tq.event ((m20Step (m20P1 d n) n).2)).set Tq.event.toNat (EV.mk (EA.mk ((evSt rx13_.es Tq.event ((m20Step (m20P1 d n) n).2)).getD Tq.event.toNat zEV).e.thread ((evSt rx13_.es Tq.event ((m20Step (m20P1 d n) n).2)).getD Tq.event.toNat zEV).e.index ((evSt rx13_.es Tq.event ((m20Step (m20P1 d n) n).2)).getD Tq.event.toNat zEV).e.begin_ d.time ((evSt rx13_.es Tq.event ((m20Step (m20P1 d n) n).2)).getD Tq.event.toNat zEV).e.steps ((evSt rx13_.es Tq.event ((m20Step (m20P1 d n) n).2)).getD Tq.event.toNat zEV).e.call Tq.call.result.err Tq.call.result.done Tq.call.result.val) (PS.mk none 0 []))) ++ sp18_).map .v) (ownIn' evE_len (o := 9) (k := 4) (by decide) (by (try simp only [List.length_set, evSt_len, evEn_len]); have p0_ := hp; have p1_ := he; have o_ := out_nr hW.dm h6; have ev_ := hv h6; rw [← hw13_.tt, ← hTq_, ← hw13_.ell] at ev_; have ea := thEn_ev Tq (pkb1 Tq); omega) rfl) (ownPut' evE_len (o := 9) (k := 4) (d := zEV) ([.int .i64 Tq.call.result.err, .bool Tq.call.result.done, .int .u64 Tq.call.result.val, .slice none 0 0]) (by kernel_rfl) (by decide) (by (try simp only [List.length_set, evSt_len, evEn_len]); have p0_ := hp; have p1_ := he; have o_ := out_nr hW.dm h6; have ev_ := hv h6; rw [← hw13_.tt, ← hTq_, ← hw13_.ell] at ev_; have ea := thEn_ev Tq (pkb1 Tq); omega) (EV.mk (EA.mk ((evSt rx13_.es Tq.event ((m20Step (m20P1 d n) n).2)).getD Tq.event.toNat zEV).e.thread ((evSt rx13_.es Tq.event ((m20Step (m20P1 d n) n).2)).getD Tq.event.toNat zEV).e.index ((evSt rx13_.es Tq.event ((m20Step (m20P1 d n) n).2)).getD Tq.event.toNat zEV).e.begin_ d.time ((evSt rx13_.es Tq.event ((m20Step (m20P1 d n) n).2)).getD Tq.event.toNat zEV).e.steps ((evSt rx13_.es Tq.event ((m20Step (m20P1 d n) n).2)).getD Tq.event.toNat zEV).e.call Tq.call.result.err Tq.call.result.done Tq.call.result.val) (PS.mk none 0 [])) (by rw [getD_set_eq (by (try simp only [List.length_set, List.length_append, List.length_cons, List.length_nil, List.length_replicate, evSt_len, evEn_len]); have p0_ := hp; have p1_ := he; have o_ := out_nr hW.dm h6; have ev_ := hv h6; rw [← hw13_.tt, ← hTq_, ← hw13_.ell] at ev_; have ea := thEn_ev Tq (pkb1 Tq); omega)]; kernel_rfl) (List.set_set ..) rfl (by kernel_rfl)) ?_
         refine qP (s := .sl 5 ((evSt rx13_.es Tq.event ((m20Step (m20P1 d n) n).2)).set Tq.event.toNat (EV.mk (EA.mk ((evSt rx13_.es Tq.event ((m20Step (m20P1 d n) n).2)).getD Tq.event.toNat zEV).e.thread ((evSt rx13_.es Tq.event ((m20Step (m20P1 d n) n).2)).getD Tq.event.toNat zEV).e.index ((evSt rx13_.es Tq.event ((m20Step (m20P1 d n) n).2)).getD Tq.event.toNat zEV).e.begin_ d.time ((evSt rx13_.es Tq.event ((m20Step (m20P1 d n) n).2)).getD Tq.event.toNat zEV).e.steps ((evSt rx13_.es Tq.event ((m20Step (m20P1 d n) n).2)).getD Tq.event.toNat zEV).e.call ((evSt rx13_.es Tq.event ((m20Step (m20P1 d n) n).2)).getD Tq.event.toNat zEV).e.err ((evSt rx13_.es Tq.event ((m20Step (m20P1 d n) n).2)).getD Tq.event.toNat zEV).e.done ((evSt rx13_.es Tq.event ((m20Step (m20P1 d n) n).2)).getD Tq.event.toNat zEV).e.val) ((evSt rx13_.es Tq.event ((m20Step (m20P1 d n) n).2)).getD Tq.event.toNat zEV).pr)).length c18_) 10 (.sl 5 ((evSt rx13_.es Tq.event ((m20Step (m20P1 d n) n).2)).set Tq.event.toNat (EV.mk (EA.mk ((evSt rx13_.es Tq.event ((m20Step (m20P1 d n) n).2)).getD Tq.event.toNat zEV).e.thread ((evSt rx13_.es Tq.event ((m20Step (m20P1 d n) n).2)).getD Tq.event.toNat zEV).e.index ((evSt rx13_.es Tq.event ((m20Step (m20P1 d n) n).2)).getD Tq.event.toNat zEV).e.begin_ d.time ((evSt rx13_.es Tq.event ((m20Step (m20P1 d n) n).2)).getD Tq.event.toNat zEV).e.steps ((evSt rx13_.es Tq.event ((m20Step (m20P1 d n) n).2)).getD Tq.event.toNat zEV).e.call Tq.call.result.err Tq.call.result.done Tq.call.result.val) (PS.mk none 0 []))).length c18_) (by simp only [List.length_set]) ?_
         refine qP (s := .sl 5 (evSt rx13_.es Tq.event ((m20Step (m20P1 d n) n).2)).length c18_) 98 (.sl 5 ((evSt rx13_.es Tq.event ((m20Step (m20P1 d n) n).2)).set Tq.event.toNat (EV.mk (EA.mk ((evSt rx13_.es Tq.event ((m20Step (m20P1 d n) n).2)).getD Tq.event.toNat zEV).e.thread ((evSt rx13_.es Tq.event ((m20Step (m20P1 d n) n).2)).getD Tq.event.toNat zEV).e.index ((evSt rx13_.es Tq.event ((m20Step (m20P1 d n) n).2)).getD Tq.event.toNat zEV).e.begin_ d.time ((evSt rx13_.es Tq.event ((m20Step (m20P1 d n) n).2)).getD Tq.event.toNat zEV).e.steps ((evSt rx13_.es Tq.event ((m20Step (m20P1 d n) n).2)).getD Tq.event.toNat zEV).e.call Tq.call.result.err Tq.call.result.done Tq.call.result.val) (PS.mk none 0 []))).length c18_) (by simp only [List.length_set]) ?_
         refine rZ 5 ?_
         refine rG [1, 2, 4, 5, 6, 9, 10] (fun tv_ => ?_)
         exact qJ (k20_Pick.j6.c d rd n K tv5_ r1 tv12_ rx13_ Tq Xq tv17_ c18_ sp18_ tv20_ tv22_) (k20_Pick.j6.r d rd n K tv5_ r1 tv12_ rx13_ Tq Xq tv17_ c18_ sp18_ tv20_ tv22_) (k20_Pick.j6.i d rd n K tv5_ r1 tv12_ rx13_ Tq Xq tv17_ c18_ sp18_ tv20_ tv22_) ⟨((evSt rx13_.es Tq.event ((m20Step (m20P1 d n) n).2)).set Tq.event.toNat (EV.mk (EA.mk ((evSt rx13_.es Tq.event ((m20Step (m20P1 d n) n).2)).getD Tq.event.toNat zEV).e.thread ((evSt rx13_.es Tq.event ((m20Step (m20P1 d n) n).2)).getD Tq.event.toNat zEV).e.index ((evSt rx13_.es Tq.event ((m20Step (m20P1 d n) n).2)).getD Tq.event.toNat zEV).e.begin_ d.time ((evSt rx13_.es Tq.event ((m20Step (m20P1 d n) n).2)).getD Tq.event.toNat zEV).e.steps ((evSt rx13_.es Tq.event ((m20Step (m20P1 d n) n).2)).getD Tq.event.toNat zEV).e.call Tq.call.result.err Tq.call.result.done Tq.call.result.val) (PS.mk none 0 []))), (TR.mk Tq.prog Tq.next Tq.whom 0 Tq.call Tq.scan Tq.event), tv_⟩ ⟨(evEn_t h23).symm, (thEn_t h23).symm⟩ (by simp [k20_Pick.j6.r, k20_Pick.j1.r, k20_Pick.j2.r, k20_Pick.j3.r, k20_Pick.j4.r, k20_Pick.j5.r])
        ·refine rZ 1 ?_
         refine rG [1, 2, 4, 5, 6, 9, 10] (fun tv_ => ?_)
         exact qJ (k20_Pick.j6.c d rd n K tv5_ r1 tv12_ rx13_ Tq Xq tv17_ c18_ sp18_ tv20_ tv22_) (k20_Pick.j6.r d rd n K tv5_ r1 tv12_ rx13_ Tq Xq tv17_ c18_ sp18_ tv20_ tv22_) (k20_Pick.j6.i d rd n K tv5_ r1 tv12_ rx13_ Tq Xq tv17_ c18_ sp18_ tv20_ tv22_) ⟨(evSt rx13_.es Tq.event ((m20Step (m20P1 d n) n).2)), Tq, tv_⟩ ⟨(evEn_f h23).symm, (thEn_f h23).symm⟩ (by simp [k20_Pick.j6.r, k20_Pick.j1.r, k20_Pick.j2.r, k20_Pick.j3.r, k20_Pick.j4.r, k20_Pick.j5.r])
       ·rintro ⟨l, t, tv24_⟩ ⟨rfl, rfl⟩
        refine rZ 2 ?_
        refine qK (k20_Pick.j7.c d rd n K tv5_ r1 tv12_ rx13_ Tq Xq tv17_ c18_ sp18_ tv20_ tv22_ tv24_) (k20_Pick.j7.r d rd n K tv5_ r1 tv12_ rx13_ Tq Xq tv17_ c18_ sp18_ tv20_ tv22_ tv24_) (k20_Pick.j7.i d rd n K tv5_ r1 tv12_ rx13_ Tq Xq tv17_ c18_ sp18_ tv20_ tv22_ tv24_) ?_ ?_
        ·refine rZ 5 ?_
         refine qS 116 ((thEn Tq (pkb1 Tq)).going == 2) (fun h25 => ?_) (fun h25 => ?_)
         ·refine rZ 5 ?_
          refine rG [1, 2, 4, 5, 6, 9, 10, 120] (fun tv_ => ?_)
          exact qJ (k20_Pick.j7.c d rd n K tv5_ r1 tv12_ rx13_ Tq Xq tv17_ c18_ sp18_ tv20_ tv22_ tv24_) (k20_Pick.j7.r d rd n K tv5_ r1 tv12_ rx13_ Tq Xq tv17_ c18_ sp18_ tv20_ tv22_ tv24_) (k20_Pick.j7.i d rd n K tv5_ r1 tv12_ rx13_ Tq Xq tv17_ c18_ sp18_ tv20_ tv22_ tv24_) ⟨(thEn Tq (pkb1 Tq)).scan.done, tv_⟩ (by show (thEn Tq (pkb1 Tq)).scan.done = (pkb2 (thEn Tq (pkb1 Tq))); unfold pkb2; simp only [h6, h25, cond_true, cond_false]) (by simp [k20_Pick.j7.r, k20_Pick.j1.r, k20_Pick.j2.r, k20_Pick.j3.r, k20_Pick.j4.r, k20_Pick.j5.r, k20_Pick.j6.r])
         ·refine rZ 5 ?_
          refine rG [1, 2, 4, 5, 6, 9, 10, 120] (fun tv_ => ?_)
          exact qJ (k20_Pick.j7.c d rd n K tv5_ r1 tv12_ rx13_ Tq Xq tv17_ c18_ sp18_ tv20_ tv22_ tv24_) (k20_Pick.j7.r d rd n K tv5_ r1 tv12_ rx13_ Tq Xq tv17_ c18_ sp18_ tv20_ tv22_ tv24_) (k20_Pick.j7.i d rd n K tv5_ r1 tv12_ rx13_ Tq Xq tv17_ c18_ sp18_ tv20_ tv22_ tv24_) ⟨false, tv_⟩ (by show false = (pkb2 (thEn Tq (pkb1 Tq))); unfold pkb2; simp only [h6, h25, cond_true, cond_false]) (by simp [k20_Pick.j7.r, k20_Pick.j1.r, k20_Pick.j2.r, k20_Pick.j3.r, k20_Pick.j4.r, k20_Pick.j5.r, k20_Pick.j6.r])
        ·rintro ⟨q, tv26_⟩ rfl
         refine qK (k20_Pick.j8.c d rd n K tv5_ r1 tv12_ rx13_ Tq Xq tv17_ c18_ sp18_ tv20_ tv22_ tv24_ tv26_) (k20_Pick.j8.r d rd n K tv5_ r1 tv12_ rx13_ Tq Xq tv17_ c18_ sp18_ tv20_ tv22_ tv24_ tv26_) (k20_Pick.j8.i d rd n K tv5_ r1 tv12_ rx13_ Tq Xq tv17_ c18_ sp18_ tv20_ tv22_ tv24_ tv26_) ?_ ?_
         ·refine qI (pkb2 (thEn Tq (pkb1 Tq))) (fun h27 => ?_) (fun h27 => ?_)
          ·refine rZ 6 ?_
           refine qY (t := 39) (e := 54) (s := 13) (b := 120) (j := 5) (n := (evEn (evSt rx13_.es Tq.event ((m20Step (m20P1 d n) n).2)) Tq.event (pkb1 Tq) d.time Tq.call.result.err Tq.call.result.done Tq.call.result.val (PS.mk none 0 [])).length) (c := c18_) (k := .i64) (i := (thEn Tq (pkb1 Tq)).event) (by (try simp only [evSt_len, evEn_len]); have p0_ := hp; have p1_ := he; have o_ := out_nr hW.dm h6; have ev_ := hv h6; rw [← hw13_.tt, ← hTq_, ← hw13_.ell] at ev_; have ea := thEn_ev Tq (pkb1 Tq); omega) (by (try simp only [evSt_len, evEn_len]); have p0_ := hp; have p1_ := he; have o_ := out_nr hW.dm h6; have ev_ := hv h6; rw [← hw13_.tt, ← hTq_, ← hw13_.ell] at ev_; have ea := thEn_ev Tq (pkb1 Tq); omega) ?_
           refine rZ 1 ?_
           refine qW (t := 3) (k := 1) (j := 5) (of := (Int.toNat (thEn Tq (pkb1 Tq)).event * 13 + 3)) (e := 54) (ag := false) (x := .v (.int .i64 d.time)) (cs := (List.flatMap evE (evEn (evSt rx13_.es Tq.event ((m20Step (m20P1 d n) n).2)) Tq.event (pkb1 Tq) d.time Tq.call.result.err Tq.call.result.done Tq.call.result.val (PS.mk none 0 [])) ++ sp18_).map .v) true ((List.flatMap evE ((evEn (evSt rx13_.es Tq.event ((m20Step (m20P1 d n) n).2)) Tq.event (pkb1 Tq) d.time Tq.call.result.err Tq.call.result.done Tq.call.result.val (PS.mk none 0 [])).set (Int.toNat (thEn Tq (pkb1 Tq)).event) (EV.mk (EA.mk ((evEn (evSt rx13_.es Tq.event ((m20Step (m20P1 d n) n).2)) Tq.event (pkb1 Tq) d.time Tq.call.result.err Tq.call.result.done Tq.call.result.val (PS.mk none 0 [])).getD (Int.toNat (thEn Tq (pkb1 Tq)).event) zEV).e.thread ((evEn (evSt rx13_.es Tq.event ((m20Step (m20P1 d n) n).2)) Tq.event (pkb1 Tq) d.time Tq.call.result.err Tq.call.result.done Tq.call.result.val (PS.mk none 0 [])).getD (Int.toNat (thEn Tq (pkb1 Tq)).event) zEV).e.index ((evEn (evSt rx13_.es Tq.event ((m20Step (m20P1 d n) n).2)) Tq.event (pkb1 Tq) d.time Tq.call.result.err Tq.call.result.done Tq.call.result.val (PS.mk none 0 [])).getD (Int.toNat (thEn Tq (pkb1 Tq)).event) zEV).e.begin_ d.time ((evEn (evSt rx13_.es Tq.event ((m20Step (m20P1 d n) n).2)) Tq.event (pkb1 Tq) d.time Tq.call.result.err Tq.call.result.done Tq.call.result.val (PS.mk none 0 [])).getD (Int.toNat (thEn Tq (pkb1 Tq)).event) zEV).e.steps ((evEn (evSt rx13_.es Tq.event ((m20Step (m20P1 d n) n).2)) Tq.event (pkb1 Tq) d.time Tq.call.result.err Tq.call.result.done Tq.call.result.val (PS.mk none 0 [])).getD (Int.toNat (thEn Tq (pkb1 Tq)).event) zEV).e.call ((evEn (evSt rx13_.es Tq.event ((m20Step (m20P1 d n) n).2)) Tq.event (pkb1 Tq) d.time Tq.call.result.err Tq.call.result.done Tq.call.result.val (PS.mk none 0 [])).getD (Int.toNat (thEn Tq (pkb1 Tq)).event) zEV).e.err ((evEn (evSt rx13_.es Tq.event ((m20Step (m20P1 d n) n).2)) Tq.event (pkb1 Tq) d.time Tq.call.result.err Tq.call.result.done Tq.call.result.val (PS.mk none 0 [])).getD (Int.toNat (thEn Tq (pkb1 Tq)).event) zEV).e.done ((evEn (evSt rx13_.es Tq.event ((m20Step (m20P1 d n) n).2)) Tq.event (pkb1 Tq) d.time Tq.call.result.err Tq.call.result.done Tq.call.result.val (PS.mk none 0 [])).getD (Int.toNat (thEn Tq (pkb1 Tq)).event) zEV).e.val) ((evEn (evSt rx13_.es Tq.event ((m20Step (m20P1 d n) n).2)) Tq.event (pkb1 Tq) d.time Tq.call.result.err Tq.call.result.done Tq.call.result.val (PS.mk none 0 [])).getD (Int.toNat (thEn Tq (pkb1 Tq)).event) zEV).pr)) ++ sp18_).map .v) (ownIn' evE_len (o := 3) (k := 1) (by decide) (by (try simp only [List.length_set, evSt_len, evEn_len]); have p0_ := hp; have p1_ := he; have o_ := out_nr hW.dm h6; have ev_ := hv h6; rw [← hw13_.tt, ← hTq_, ← hw13_.ell] at ev_; have ea := thEn_ev Tq (pkb1 Tq); omega) rfl) (ownPut' evE_len (o := 3) (k := 1) (d := zEV) ([.int .i64 d.time]) (by kernel_rfl) (by decide) (by (try simp only [List.length_set, evSt_len, evEn_len]); have p0_ := hp; have p1_ := he; have o_ := out_nr hW.dm h6; have ev_ := hv h6; rw [← hw13_.tt, ← hTq_, ← hw13_.ell] at ev_; have ea := thEn_ev Tq (pkb1 Tq); omega) (EV.mk (EA.mk ((evEn (evSt rx13_.es Tq.event ((m20Step (m20P1 d n) n).2)) Tq.event (pkb1 Tq) d.time Tq.call.result.err Tq.call.result.done Tq.call.result.val (PS.mk none 0 [])).getD (Int.toNat (thEn Tq (pkb1 Tq)).event) zEV).e.thread ((evEn (evSt rx13_.es Tq.event ((m20Step (m20P1 d n) n).2)) Tq.event (pkb1 Tq) d.time Tq.call.result.err Tq.call.result.done Tq.call.result.val (PS.mk none 0 [])).getD (Int.toNat (thEn Tq (pkb1 Tq)).event) zEV).e.index ((evEn (evSt rx13_.es Tq.event ((m20Step (m20P1 d n) n).2)) Tq.event (pkb1 Tq) d.time Tq.call.result.err Tq.call.result.done Tq.call.result.val (PS.mk none 0 [])).getD (Int.toNat (thEn Tq (pkb1 Tq)).event) zEV).e.begin_ d.time ((evEn (evSt rx13_.es Tq.event ((m20Step (m20P1 d n) n).2)) Tq.event (pkb1 Tq) d.time Tq.call.result.err Tq.call.result.done Tq.call.result.val (PS.mk none 0 [])).getD (Int.toNat (thEn Tq (pkb1 Tq)).event) zEV).e.steps ((evEn (evSt rx13_.es Tq.event ((m20Step (m20P1 d n) n).2)) Tq.event (pkb1 Tq) d.time Tq.call.result.err Tq.call.result.done Tq.call.result.val (PS.mk none 0 [])).getD (Int.toNat (thEn Tq (pkb1 Tq)).event) zEV).e.call ((evEn (evSt rx13_.es Tq.event ((m20Step (m20P1 d n) n).2)) Tq.event (pkb1 Tq) d.time Tq.call.result.err Tq.call.result.done Tq.call.result.val (PS.mk none 0 [])).getD (Int.toNat (thEn Tq (pkb1 Tq)).event) zEV).e.err ((evEn (evSt rx13_.es Tq.event ((m20Step (m20P1 d n) n).2)) Tq.event (pkb1 Tq) d.time Tq.call.result.err Tq.call.result.done Tq.call.result.val (PS.mk none 0 [])).getD (Int.toNat (thEn Tq (pkb1 Tq)).event) zEV).e.done ((evEn (evSt rx13_.es Tq.event ((m20Step (m20P1 d n) n).2)) Tq.event (pkb1 Tq) d.time Tq.call.result.err Tq.call.result.done Tq.call.result.val (PS.mk none 0 [])).getD (Int.toNat (thEn Tq (pkb1 Tq)).event) zEV).e.val) ((evEn (evSt rx13_.es Tq.event ((m20Step (m20P1 d n) n).2)) Tq.event (pkb1 Tq) d.time Tq.call.result.err Tq.call.result.done Tq.call.result.val (PS.mk none 0 [])).getD (Int.toNat (thEn Tq (pkb1 Tq)).event) zEV).pr) (by kernel_rfl) rfl rfl (by kernel_rfl)) ?_
           refine qP 10 (.sl 5 ((evEn (evSt rx13_.es Tq.event ((m20Step (m20P1 d n) n).2)) Tq.event (pkb1 Tq) d.time Tq.call.result.err Tq.call.result.done Tq.call.result.val (PS.mk none 0 [])).set (Int.toNat (thEn Tq (pkb1 Tq)).event) (EV.mk (EA.mk ((evEn (evSt rx13_.es Tq.event ((m20Step (m20P1 d n) n).2)) Tq.event (pkb1 Tq) d.time Tq.call.result.err Tq.call.result.done Tq.call.result.val (PS.mk none 0 [])).getD (Int.toNat (thEn Tq (pkb1 Tq)).event) zEV).e.thread ((evEn (evSt rx13_.es Tq.event ((m20Step (m20P1 d n) n).2)) Tq.event (pkb1 Tq) d.time Tq.call.result.err Tq.call.result.done Tq.call.result.val (PS.mk none 0 [])).getD (Int.toNat (thEn Tq (pkb1 Tq)).event) zEV).e.index ((evEn (evSt rx13_.es Tq.event ((m20Step (m20P1 d n) n).2)) Tq.event (pkb1 Tq) d.time Tq.call.result.err Tq.call.result.done Tq.call.result.val (PS.mk none 0 [])).getD (Int.toNat (thEn Tq (pkb1 Tq)).event) zEV).e.begin_ d.time ((evEn (evSt rx13_.es Tq.event ((m20Step (m20P1 d n) n).2)) Tq.event (pkb1 Tq) d.time Tq.call.result.err Tq.call.result.done Tq.call.result.val (PS.mk none 0 [])).getD (Int.toNat (thEn Tq (pkb1 Tq)).event) zEV).e.steps ((evEn (evSt rx13_.es Tq.event ((m20Step (m20P1 d n) n).2)) Tq.event (pkb1 Tq) d.time Tq.call.result.err Tq.call.result.done Tq.call.result.val (PS.mk none 0 [])).getD (Int.toNat (thEn Tq (pkb1 Tq)).event) zEV).e.call ((evEn (evSt rx13_.es Tq.event ((m20Step (m20P1 d n) n).2)) Tq.event (pkb1 Tq) d.time Tq.call.result.err Tq.call.result.done Tq.call.result.val (PS.mk none 0 [])).getD (Int.toNat (thEn Tq (pkb1 Tq)).event) zEV).e.err ((evEn (evSt rx13_.es Tq.event ((m20Step (m20P1 d n) n).2)) Tq.event (pkb1 Tq) d.time Tq.call.result.err Tq.call.result.done Tq.call.result.val (PS.mk none 0 [])).getD (Int.toNat (thEn Tq (pkb1 Tq)).event) zEV).e.done ((evEn (evSt rx13_.es Tq.event ((m20Step (m20P1 d n) n).2)) Tq.event (pkb1 Tq) d.time Tq.call.result.err Tq.call.result.done Tq.call.result.val (PS.mk none 0 [])).getD (Int.toNat (thEn Tq (pkb1 Tq)).event) zEV).e.val) ((evEn (evSt rx13_.es Tq.event ((m20Step (m20P1 d n) n).2)) Tq.event (pkb1 Tq) d.time Tq.call.result.err Tq.call.result.done Tq.call.result.val (PS.mk none 0 [])).getD (Int.toNat (thEn Tq (pkb1 Tq)).event) zEV).pr)).length c18_) (by rw [List.length_set]) ?_
           refine rZ 9 ?_
           refine qY (t := 39) (e := 54) (s := 13) (b := 120) (j := 5) (n := ((evEn (evSt rx13_.es Tq.event ((m20Step (m20P1 d n) n).2)) Tq.event (pkb1 Tq) d.time Tq.call.result.err Tq.call.result.done Tq.call.result.val (PS.mk none 0 [])).set (Int.toNat (thEn Tq (pkb1 Tq)).event) (EV.mk (EA.mk ((evEn (evSt rx13_.es Tq.event ((m20Step (m20P1 d n) n).2)) Tq.event (pkb1 Tq) d.time Tq.call.result.err Tq.call.result.done Tq.call.result.val (PS.mk none 0 [])).getD (Int.toNat (thEn Tq (pkb1 Tq)).event) zEV).e.thread ((evEn (evSt rx13_.es Tq.event ((m20Step (m20P1 d n) n).2)) Tq.event (pkb1 Tq) d.time Tq.call.result.err Tq.call.result.done Tq.call.result.val (PS.mk none 0 [])).getD (Int.toNat (thEn Tq (pkb1 Tq)).event) zEV).e.index ((evEn (evSt rx13_.es Tq.event ((m20Step (m20P1 d n) n).2)) Tq.event (pkb1 Tq) d.time Tq.call.result.err Tq.call.result.done Tq.call.result.val (PS.mk none 0 [])).getD (Int.toNat (thEn Tq (pkb1 Tq)).event) zEV).e.begin_ d.time ((evEn (evSt rx13_.es Tq.event ((m20Step (m20P1 d n) n).2)) Tq.event (pkb1 Tq) d.time Tq.call.result.err Tq.call.result.done Tq.call.result.val (PS.mk none 0 [])).getD (Int.toNat (thEn Tq (pkb1 Tq)).event) zEV).e.steps ((evEn (evSt rx13_.es Tq.event ((m20Step (m20P1 d n) n).2)) Tq.event (pkb1 Tq) d.time Tq.call.result.err Tq.call.result.done Tq.call.result.val (PS.mk none 0 [])).getD (Int.toNat (thEn Tq (pkb1 Tq)).event) zEV).e.call ((evEn (evSt rx13_.es Tq.event ((m20Step (m20P1 d n) n).2)) Tq.event (pkb1 Tq) d.time Tq.call.result.err Tq.call.result.done Tq.call.result.val (PS.mk none 0 [])).getD (Int.toNat (thEn Tq (pkb1 Tq)).event) zEV).e.err ((evEn (evSt rx13_.es Tq.event ((m20Step (m20P1 d n) n).2)) Tq.event (pkb1 Tq) d.time Tq.call.result.err Tq.call.result.done Tq.call.result.val (PS.mk none 0 [])).getD (Int.toNat (thEn Tq (pkb1 Tq)).event) zEV).e.done ((evEn (evSt rx13_.es Tq.event ((m20Step (m20P1 d n) n).2)) Tq.event (pkb1 Tq) d.time Tq.call.result.err Tq.call.result.done Tq.call.result.val (PS.mk none 0 [])).getD (Int.toNat (thEn Tq (pkb1 Tq)).event) zEV).e.val) ((evEn (evSt rx13_.es Tq.event ((m20Step (m20P1 d n) n).2)) Tq.event (pkb1 Tq) d.time Tq.call.result.err Tq.call.result.done Tq.call.result.val (PS.mk none 0 [])).getD (Int.toNat (thEn Tq (pkb1 Tq)).event) zEV).pr)).length) (c := c18_) (k := .i64) (i := (thEn Tq (pkb1 Tq)).event) (by (try simp only [List.length_set, evSt_len, evEn_len]); have p0_ := hp; have p1_ := he; have o_ := out_nr hW.dm h6; have ev_ := hv h6; rw [← hw13_.tt, ← hTq_, ← hw13_.ell] at ev_; have ea := thEn_ev Tq (pkb1 Tq); omega) (by (try simp only [List.length_set, evSt_len, evEn_len]); have p0_ := hp; have p1_ := he; have o_ := out_nr hW.dm h6; have ev_ := hv h6; rw [← hw13_.tt, ← hTq_, ← hw13_.ell] at ev_; have ea := thEn_ev Tq (pkb1 Tq); omega) ?_
           refine rZ 1 ?_
           refine qW (t := 52) (k := 4) (j := 5) (of := (Int.toNat (thEn Tq (pkb1 Tq)).event * 13 + 9)) (e := 54) (ag := true) (x := .v (.agg #[.int .i64 (thEn Tq (pkb1 Tq)).scan.err, .bool (thEn Tq (pkb1 Tq)).scan.rdone, .int .u64 (thEn Tq (pkb1 Tq)).scan.rval, .slice Xq.sx.pr.a Xq.sx.pr.ps.length Xq.sx.pr.c])) (cs := (List.flatMap evE ((evEn (evSt rx13_.es Tq.event ((m20Step (m20P1 d n) n).2)) Tq.event (pkb1 Tq) d.time Tq.call.result.err Tq.call.result.done Tq.call.result.val (PS.mk none 0 [])).set (Int.toNat (thEn Tq (pkb1 Tq)).event) (EV.mk (EA.mk ((evEn (evSt rx13_.es Tq.event ((m20Step (m20P1 d n) n).2)) Tq.event (pkb1 Tq) d.time Tq.call.result.err Tq.call.result.done Tq.call.result.val (PS.mk none 0 [])).getD (Int.toNat (thEn Tq (pkb1 Tq)).event) zEV).e.thread ((evEn (evSt rx13_.es Tq.event ((m20Step (m20P1 d n) n).2)) Tq.event (pkb1 Tq) d.time Tq.call.result.err Tq.call.result.done Tq.call.result.val (PS.mk none 0 [])).getD (Int.toNat (thEn Tq (pkb1 Tq)).event) zEV).e.index ((evEn (evSt rx13_.es Tq.event ((m20Step (m20P1 d n) n).2)) Tq.event (pkb1 Tq) d.time Tq.call.result.err Tq.call.result.done Tq.call.result.val (PS.mk none 0 [])).getD (Int.toNat (thEn Tq (pkb1 Tq)).event) zEV).e.begin_ d.time ((evEn (evSt rx13_.es Tq.event ((m20Step (m20P1 d n) n).2)) Tq.event (pkb1 Tq) d.time Tq.call.result.err Tq.call.result.done Tq.call.result.val (PS.mk none 0 [])).getD (Int.toNat (thEn Tq (pkb1 Tq)).event) zEV).e.steps ((evEn (evSt rx13_.es Tq.event ((m20Step (m20P1 d n) n).2)) Tq.event (pkb1 Tq) d.time Tq.call.result.err Tq.call.result.done Tq.call.result.val (PS.mk none 0 [])).getD (Int.toNat (thEn Tq (pkb1 Tq)).event) zEV).e.call ((evEn (evSt rx13_.es Tq.event ((m20Step (m20P1 d n) n).2)) Tq.event (pkb1 Tq) d.time Tq.call.result.err Tq.call.result.done Tq.call.result.val (PS.mk none 0 [])).getD (Int.toNat (thEn Tq (pkb1 Tq)).event) zEV).e.err ((evEn (evSt rx13_.es Tq.event ((m20Step (m20P1 d n) n).2)) Tq.event (pkb1 Tq) d.time Tq.call.result.err Tq.call.result.done Tq.call.result.val (PS.mk none 0 [])).getD (Int.toNat (thEn Tq (pkb1 Tq)).event) zEV).e.done ((evEn (evSt rx13_.es Tq.event ((m20Step (m20P1 d n) n).2)) Tq.event (pkb1 Tq) d.time Tq.call.result.err Tq.call.result.done Tq.call.result.val (PS.mk none 0 [])).getD (Int.toNat (thEn Tq (pkb1 Tq)).event) zEV).e.val) ((evEn (evSt rx13_.es Tq.event ((m20Step (m20P1 d n) n).2)) Tq.event (pkb1 Tq) d.time Tq.call.result.err Tq.call.result.done Tq.call.result.val (PS.mk none 0 [])).getD (Int.toNat (thEn Tq (pkb1 Tq)).event) zEV).pr)) ++ sp18_).map .v) true ((List.flatMap evE ((evEn (evSt rx13_.es Tq.event ((m20Step (m20P1 d n) n).2)) Tq.event (pkb1 Tq) d.time Tq.call.result.err Tq.call.result.done Tq.call.result.val (PS.mk none 0 [])).set (Int.toNat (thEn Tq (pkb1 Tq)).event) (EV.mk (EA.mk ((evEn (evSt rx13_.es Tq.event ((m20Step (m20P1 d n) n).2)) Tq.event (pkb1 Tq) d.time Tq.call.result.err Tq.call.result.done Tq.call.result.val (PS.mk none 0 [])).getD (Int.toNat (thEn Tq (pkb1 Tq)).event) zEV).e.thread ((evEn (evSt rx13_.es Tq.event ((m20Step (m20P1 d n) n).2)) Tq.event (pkb1 Tq) d.time Tq.call.result.err Tq.call.result.done Tq.call.result.val (PS.mk none 0 [])).getD (Int.toNat (thEn Tq (pkb1 Tq)).event) zEV).e.index ((evEn (evSt rx13_.es Tq.event ((m20Step (m20P1 d n) n).2)) Tq.event (pkb1 Tq) d.time Tq.call.result.err Tq.call.result.done Tq.call.result.val (PS.mk none 0 [])).getD (Int.toNat (thEn Tq (pkb1 Tq)).event) zEV).e.begin_ d.time ((evEn (evSt rx13_.es Tq.event ((m20Step (m20P1 d n) n).2)) Tq.event (pkb1 Tq) d.time Tq.call.result.err Tq.call.result.done Tq.call.result.val (PS.mk none 0 [])).getD (Int.toNat (thEn Tq (pkb1 Tq)).event) zEV).e.steps ((evEn (evSt rx13_.es Tq.event ((m20Step (m20P1 d n) n).2)) Tq.event (pkb1 Tq) d.time Tq.call.result.err Tq.call.result.done Tq.call.result.val (PS.mk none 0 [])).getD (Int.toNat (thEn Tq (pkb1 Tq)).event) zEV).e.call (thEn Tq (pkb1 Tq)).scan.err (thEn Tq (pkb1 Tq)).scan.rdone (thEn Tq (pkb1 Tq)).scan.rval) Xq.sx.pr)) ++ sp18_).map .v) (ownIn' evE_len (o := 9) (k := 4) (by decide) (by (try simp only [List.length_set, evSt_len, evEn_len]); have p0_ := hp; have p1_ := he; have o_ := out_nr hW.dm h6; have ev_ := hv h6; rw [← hw13_.tt, ← hTq_, ← hw13_.ell] at ev_; have ea := thEn_ev Tq (pkb1 Tq); omega) rfl) (ownPut' evE_len (o := 9) (k := 4) (d := zEV) ([.int .i64 (thEn Tq (pkb1 Tq)).scan.err, .bool (thEn Tq (pkb1 Tq)).scan.rdone, .int .u64 (thEn Tq (pkb1 Tq)).scan.rval, .slice Xq.sx.pr.a Xq.sx.pr.ps.length Xq.sx.pr.c]) (by kernel_rfl) (by decide) (by (try simp only [List.length_set, evSt_len, evEn_len]); have p0_ := hp; have p1_ := he; have o_ := out_nr hW.dm h6; have ev_ := hv h6; rw [← hw13_.tt, ← hTq_, ← hw13_.ell] at ev_; have ea := thEn_ev Tq (pkb1 Tq); omega) (EV.mk (EA.mk ((evEn (evSt rx13_.es Tq.event ((m20Step (m20P1 d n) n).2)) Tq.event (pkb1 Tq) d.time Tq.call.result.err Tq.call.result.done Tq.call.result.val (PS.mk none 0 [])).getD (Int.toNat (thEn Tq (pkb1 Tq)).event) zEV).e.thread ((evEn (evSt rx13_.es Tq.event ((m20Step (m20P1 d n) n).2)) Tq.event (pkb1 Tq) d.time Tq.call.result.err Tq.call.result.done Tq.call.result.val (PS.mk none 0 [])).getD (Int.toNat (thEn Tq (pkb1 Tq)).event) zEV).e.index ((evEn (evSt rx13_.es Tq.event ((m20Step (m20P1 d n) n).2)) Tq.event (pkb1 Tq) d.time Tq.call.result.err Tq.call.result.done Tq.call.result.val (PS.mk none 0 [])).getD (Int.toNat (thEn Tq (pkb1 Tq)).event) zEV).e.begin_ d.time ((evEn (evSt rx13_.es Tq.event ((m20Step (m20P1 d n) n).2)) Tq.event (pkb1 Tq) d.time Tq.call.result.err Tq.call.result.done Tq.call.result.val (PS.mk none 0 [])).getD (Int.toNat (thEn Tq (pkb1 Tq)).event) zEV).e.steps ((evEn (evSt rx13_.es Tq.event ((m20Step (m20P1 d n) n).2)) Tq.event (pkb1 Tq) d.time Tq.call.result.err Tq.call.result.done Tq.call.result.val (PS.mk none 0 [])).getD (Int.toNat (thEn Tq (pkb1 Tq)).event) zEV).e.call (thEn Tq (pkb1 Tq)).scan.err (thEn Tq (pkb1 Tq)).scan.rdone (thEn Tq (pkb1 Tq)).scan.rval) Xq.sx.pr) (by rw [getD_set_eq (by (try simp only [List.length_set, List.length_append, List.length_cons, List.length_nil, List.length_replicate, evSt_len, evEn_len]); have p0_ := hp; have p1_ := he; have o_ := out_nr hW.dm h6; have ev_ := hv h6; rw [← hw13_.tt, ← hTq_, ← hw13_.ell] at ev_; have ea := thEn_ev Tq (pkb1 Tq); omega)]; kernel_rfl) (List.set_set ..) rfl (by kernel_rfl)) ?_
           refine qP (s := .sl 5 ((evEn (evSt rx13_.es Tq.event ((m20Step (m20P1 d n) n).2)) Tq.event (pkb1 Tq) d.time Tq.call.result.err Tq.call.result.done Tq.call.result.val (PS.mk none 0 [])).set (Int.toNat (thEn Tq (pkb1 Tq)).event) (EV.mk (EA.mk ((evEn (evSt rx13_.es Tq.event ((m20Step (m20P1 d n) n).2)) Tq.event (pkb1 Tq) d.time Tq.call.result.err Tq.call.result.done Tq.call.result.val (PS.mk none 0 [])).getD (Int.toNat (thEn Tq (pkb1 Tq)).event) zEV).e.thread ((evEn (evSt rx13_.es Tq.event ((m20Step (m20P1 d n) n).2)) Tq.event (pkb1 Tq) d.time Tq.call.result.err Tq.call.result.done Tq.call.result.val (PS.mk none 0 [])).getD (Int.toNat (thEn Tq (pkb1 Tq)).event) zEV).e.index ((evEn (evSt rx13_.es Tq.event ((m20Step (m20P1 d n) n).2)) Tq.event (pkb1 Tq) d.time Tq.call.result.err Tq.call.result.done Tq.call.result.val (PS.mk none 0 [])).getD (Int.toNat (thEn Tq (pkb1 Tq)).event) zEV).e.begin_ d.time ((evEn (evSt rx13_.es Tq.event ((m20Step (m20P1 d n) n).2)) Tq.event (pkb1 Tq) d.time Tq.call.result.err Tq.call.result.done Tq.call.result.val (PS.mk none 0 [])).getD (Int.toNat (thEn Tq (pkb1 Tq)).event) zEV).e.steps ((evEn (evSt rx13_.es Tq.event ((m20Step (m20P1 d n) n).2)) Tq.event (pkb1 Tq) d.time Tq.call.result.err Tq.call.result.done Tq.call.result.val (PS.mk none 0 [])).getD (Int.toNat (thEn Tq (pkb1 Tq)).event) zEV).e.call ((evEn (evSt rx13_.es Tq.event ((m20Step (m20P1 d n) n).2)) Tq.event (pkb1 Tq) d.time Tq.call.result.err Tq.call.result.done Tq.call.result.val (PS.mk none 0 [])).getD (Int.toNat (thEn Tq (pkb1 Tq)).event) zEV).e.err ((evEn (evSt rx13_.es Tq.event ((m20Step (m20P1 d n) n).2)) Tq.event (pkb1 Tq) d.time Tq.call.result.err Tq.call.result.done Tq.call.result.val (PS.mk none 0 [])).getD (Int.toNat (thEn Tq (pkb1 Tq)).event) zEV).e.done ((evEn (evSt rx13_.es Tq.event ((m20Step (m20P1 d n) n).2)) Tq.event (pkb1 Tq) d.time Tq.call.result.err Tq.call.result.done Tq.call.result.val (PS.mk none 0 [])).getD (Int.toNat (thEn Tq (pkb1 Tq)).event) zEV).e.val) ((evEn (evSt rx13_.es Tq.event ((m20Step (m20P1 d n) n).2)) Tq.event (pkb1 Tq) d.time Tq.call.result.err Tq.call.result.done Tq.call.result.val (PS.mk none 0 [])).getD (Int.toNat (thEn Tq (pkb1 Tq)).event) zEV).pr)).length c18_) 10 (.sl 5 ((evEn (evSt rx13_.es Tq.event ((m20Step (m20P1 d n) n).2)) Tq.event (pkb1 Tq) d.time Tq.call.result.err Tq.call.result.done Tq.call.result.val (PS.mk none 0 [])).set (Int.toNat (thEn Tq (pkb1 Tq)).event) (EV.mk (EA.mk ((evEn (evSt rx13_.es Tq.event ((m20Step (m20P1 d n) n).2)) Tq.event (pkb1 Tq) d.time Tq.call.result.err Tq.call.result.done Tq.call.result.val (PS.mk none 0 [])).getD (Int.toNat (thEn Tq (pkb1 Tq)).event) zEV).e.thread ((evEn (evSt rx13_.es Tq.event ((m20Step (m20P1 d n) n).2)) Tq.event (pkb1 Tq) d.time Tq.call.result.err Tq.call.result.done Tq.call.result.val (PS.mk none 0 [])).getD (Int.toNat (thEn Tq (pkb1 Tq)).event) zEV).e.index ((evEn (evSt rx13_.es Tq.event ((m20Step (m20P1 d n) n).2)) Tq.event (pkb1 Tq) d.time Tq.call.result.err Tq.call.result.done Tq.call.result.val (PS.mk none 0 [])).getD (Int.toNat (thEn Tq (pkb1 Tq)).event) zEV).e.begin_ d.time ((evEn (evSt rx13_.es Tq.event ((m20Step (m20P1 d n) n).2)) Tq.event (pkb1 Tq) d.time Tq.call.result.err Tq.call.result.done Tq.call.result.val (PS.mk none 0 [])).getD (Int.toNat (thEn Tq (pkb1 Tq)).event) zEV).e.steps ((evEn (evSt rx13_.es Tq.event ((m20Step (m20P1 d n) n).2)) Tq.event (pkb1 Tq) d.time Tq.call.result.err Tq.call.result.done Tq.call.result.val (PS.mk none 0 [])).getD (Int.toNat (thEn Tq (pkb1 Tq)).event) zEV).e.call (thEn Tq (pkb1 Tq)).scan.err (thEn Tq (pkb1 Tq)).scan.rdone (thEn Tq (pkb1 Tq)).scan.rval) Xq.sx.pr)).length c18_) (by simp only [List.length_set]) ?_
           refine qP (s := .sl 5 (evEn (evSt rx13_.es Tq.event ((m20Step (m20P1 d n) n).2)) Tq.event (pkb1 Tq) d.time Tq.call.result.err Tq.call.result.done Tq.call.result.val (PS.mk none 0 [])).length c18_) 121 (.sl 5 ((evEn (evSt rx13_.es Tq.event ((m20Step (m20P1 d n) n).2)) Tq.event (pkb1 Tq) d.time Tq.call.result.err Tq.call.result.done Tq.call.result.val (PS.mk none 0 [])).set (Int.toNat (thEn Tq (pkb1 Tq)).event) (EV.mk (EA.mk ((evEn (evSt rx13_.es Tq.event ((m20Step (m20P1 d n) n).2)) Tq.event (pkb1 Tq) d.time Tq.call.result.err Tq.call.result.done Tq.call.result.val (PS.mk none 0 [])).getD (Int.toNat (thEn Tq (pkb1 Tq)).event) zEV).e.thread ((evEn (evSt rx13_.es Tq.event ((m20Step (m20P1 d n) n).2)) Tq.event (pkb1 Tq) d.time Tq.call.result.err Tq.call.result.done Tq.call.result.val (PS.mk none 0 [])).getD (Int.toNat (thEn Tq (pkb1 Tq)).event) zEV).e.index ((evEn (evSt rx13_.es Tq.event ((m20Step (m20P1 d n) n).2)) Tq.event (pkb1 Tq) d.time Tq.call.result.err Tq.call.result.done Tq.call.result.val (PS.mk none 0 [])).getD (Int.toNat (thEn Tq (pkb1 Tq)).event) zEV).e.begin_ d.time ((evEn (evSt rx13_.es Tq.event ((m20Step (m20P1 d n) n).2)) Tq.event (pkb1 Tq) d.time Tq.call.result.err Tq.call.result.done Tq.call.result.val (PS.mk none 0 [])).getD (Int.toNat (thEn Tq (pkb1 Tq)).event) zEV).e.steps ((evEn (evSt rx13_.es Tq.event ((m20Step (m20P1 d n) n).2)) Tq.event (pkb1 Tq) d.time Tq.call.result.err Tq.call.result.done Tq.call.result.val (PS.mk none 0 [])).getD (Int.toNat (thEn Tq (pkb1 Tq)).event) zEV).e.call (thEn Tq (pkb1 Tq)).scan.err (thEn Tq (pkb1 Tq)).scan.rdone (thEn Tq (pkb1 Tq)).scan.rval) Xq.sx.pr)).length c18_) (by simp only [List.length_set]) ?_
           refine rZ 5 ?_
           refine rG [1, 2, 4, 5, 6, 9, 10] (fun tv_ => ?_)
           exact qJ (k20_Pick.j8.c d rd n K tv5_ r1 tv12_ rx13_ Tq Xq tv17_ c18_ sp18_ tv20_ tv22_ tv24_ tv26_) (k20_Pick.j8.r d rd n K tv5_ r1 tv12_ rx13_ Tq Xq tv17_ c18_ sp18_ tv20_ tv22_ tv24_ tv26_) (k20_Pick.j8.i d rd n K tv5_ r1 tv12_ rx13_ Tq Xq tv17_ c18_ sp18_ tv20_ tv22_ tv24_ tv26_) ⟨((evEn (evSt rx13_.es Tq.event ((m20Step (m20P1 d n) n).2)) Tq.event (pkb1 Tq) d.time Tq.call.result.err Tq.call.result.done Tq.call.result.val (PS.mk none 0 [])).set (Int.toNat (thEn Tq (pkb1 Tq)).event) (EV.mk (EA.mk ((evEn (evSt rx13_.es Tq.event ((m20Step (m20P1 d n) n).2)) Tq.event (pkb1 Tq) d.time Tq.call.result.err Tq.call.result.done Tq.call.result.val (PS.mk none 0 [])).getD (Int.toNat (thEn Tq (pkb1 Tq)).event) zEV).e.thread ((evEn (evSt rx13_.es Tq.event ((m20Step (m20P1 d n) n).2)) Tq.event (pkb1 Tq) d.time Tq.call.result.err Tq.call.result.done Tq.call.result.val (PS.mk none 0 [])).getD (Int.toNat (thEn Tq (pkb1 Tq)).event) zEV).e.index ((evEn (evSt rx13_.es Tq.event ((m20Step (m20P1 d n) n).2)) Tq.event (pkb1 Tq) d.time Tq.call.result.err Tq.call.result.done Tq.call.result.val (PS.mk none 0 [])).getD (Int.toNat (thEn Tq (pkb1 Tq)).event) zEV).e.begin_ d.time ((evEn (evSt rx13_.es Tq.event ((m20Step (m20P1 d n) n).2)) Tq.event (pkb1 Tq) d.time Tq.call.result.err Tq.call.result.done Tq.call.result.val (PS.mk none 0 [])).getD (Int.toNat (thEn Tq (pkb1 Tq)).event) zEV).e.steps ((evEn (evSt rx13_.es Tq.event ((m20Step (m20P1 d n) n).2)) Tq.event (pkb1 Tq) d.time Tq.call.result.err Tq.call.result.done Tq.call.result.val (PS.mk none 0 [])).getD (Int.toNat (thEn Tq (pkb1 Tq)).event) zEV).e.call (thEn Tq (pkb1 Tq)).scan.err (thEn Tq (pkb1 Tq)).scan.rdone (thEn Tq (pkb1 Tq)).scan.rval) Xq.sx.pr)), (TR.mk (thEn Tq (pkb1 Tq)).prog (thEn Tq (pkb1 Tq)).next (thEn Tq (pkb1 Tq)).whom 0 (thEn Tq (pkb1 Tq)).call (thEn Tq (pkb1 Tq)).scan (thEn Tq (pkb1 Tq)).event), tv_⟩ ⟨(evEn_t h27).symm, (thEn_t h27).symm⟩ (by simp [k20_Pick.j8.r, k20_Pick.j1.r, k20_Pick.j2.r, k20_Pick.j3.r, k20_Pick.j4.r, k20_Pick.j5.r, k20_Pick.j6.r, k20_Pick.j7.r])
          ·refine rZ 1 ?_
           refine rG [1, 2, 4, 5, 6, 9, 10] (fun tv_ => ?_)
           exact qJ (k20_Pick.j8.c d rd n K tv5_ r1 tv12_ rx13_ Tq Xq tv17_ c18_ sp18_ tv20_ tv22_ tv24_ tv26_) (k20_Pick.j8.r d rd n K tv5_ r1 tv12_ rx13_ Tq Xq tv17_ c18_ sp18_ tv20_ tv22_ tv24_ tv26_) (k20_Pick.j8.i d rd n K tv5_ r1 tv12_ rx13_ Tq Xq tv17_ c18_ sp18_ tv20_ tv22_ tv24_ tv26_) ⟨(evEn (evSt rx13_.es Tq.event ((m20Step (m20P1 d n) n).2)) Tq.event (pkb1 Tq) d.time Tq.call.result.err Tq.call.result.done Tq.call.result.val (PS.mk none 0 [])), (thEn Tq (pkb1 Tq)), tv_⟩ ⟨(evEn_f h27).symm, (thEn_f h27).symm⟩ (by simp [k20_Pick.j8.r, k20_Pick.j1.r, k20_Pick.j2.r, k20_Pick.j3.r, k20_Pick.j4.r, k20_Pick.j5.r, k20_Pick.j6.r, k20_Pick.j7.r])
         ·rintro ⟨l, t, tv28_⟩ ⟨rfl, rfl⟩
          refine rZ 8 ?_
          refine qG 5 [0] 54 (List.flatMap evE (evEn (evEn (evSt rx13_.es Tq.event ((m20Step (m20P1 d n) n).2)) Tq.event (pkb1 Tq) d.time Tq.call.result.err Tq.call.result.done Tq.call.result.val (PS.mk none 0 [])) (thEn Tq (pkb1 Tq)).event (pkb2 (thEn Tq (pkb1 Tq))) d.time (thEn Tq (pkb1 Tq)).scan.err (thEn Tq (pkb1 Tq)).scan.rdone (thEn Tq (pkb1 Tq)).scan.rval Xq.sx.pr) ++ sp18_) (fun g29_ => ?_)
          refine rZ 3 ?_
          refine qC [.agg (encD (AD.mk ((m20Step (m20P1 d n) n).1).w ((m20Step (m20P1 d n) n).1).ts (eaEn (eaEn (eaSt ((m20Step (m20P1 d n) n).1).es Tq.event ((m20Step (m20P1 d n) n).2)) Tq.event (pkb1 Tq) d.time Tq.call.result.err Tq.call.result.done Tq.call.result.val) (thEn Tq (pkb1 Tq)).event (pkb2 (thEn Tq (pkb1 Tq))) d.time (thEn Tq (pkb1 Tq)).scan.err (thEn Tq (pkb1 Tq)).scan.rdone (thEn Tq (pkb1 Tq)).scan.rval) ((m20Step (m20P1 d n) n).1).time) (DX.mk rx13_.x rx13_.A rx13_.C rx13_.l (some ⟨g29_, 0, none⟩) c18_ (evEn (evEn (evSt rx13_.es Tq.event ((m20Step (m20P1 d n) n).2)) Tq.event (pkb1 Tq) d.time Tq.call.result.err Tq.call.result.done Tq.call.result.val (PS.mk none 0 [])) (thEn Tq (pkb1 Tq)).event (pkb2 (thEn Tq (pkb1 Tq))) d.time (thEn Tq (pkb1 Tq)).scan.err (thEn Tq (pkb1 Tq)).scan.rdone (thEn Tq (pkb1 Tq)).scan.rval Xq.sx.pr))).toArray, .int .i64 n, .agg (encT (thEn (thEn Tq (pkb1 Tq)) (pkb2 (thEn Tq (pkb1 Tq)))) Xq).toArray] fun W_ hT_ hR_ => (k20_thread (AD.mk ((m20Step (m20P1 d n) n).1).w ((m20Step (m20P1 d n) n).1).ts (eaEn (eaEn (eaSt ((m20Step (m20P1 d n) n).1).es Tq.event ((m20Step (m20P1 d n) n).2)) Tq.event (pkb1 Tq) d.time Tq.call.result.err Tq.call.result.done Tq.call.result.val) (thEn Tq (pkb1 Tq)).event (pkb2 (thEn Tq (pkb1 Tq))) d.time (thEn Tq (pkb1 Tq)).scan.err (thEn Tq (pkb1 Tq)).scan.rdone (thEn Tq (pkb1 Tq)).scan.rval) ((m20Step (m20P1 d n) n).1).time) (DX.mk rx13_.x rx13_.A rx13_.C rx13_.l (some ⟨g29_, 0, none⟩) c18_ (evEn (evEn (evSt rx13_.es Tq.event ((m20Step (m20P1 d n) n).2)) Tq.event (pkb1 Tq) d.time Tq.call.result.err Tq.call.result.done Tq.call.result.val (PS.mk none 0 [])) (thEn Tq (pkb1 Tq)).event (pkb2 (thEn Tq (pkb1 Tq))) d.time (thEn Tq (pkb1 Tq)).scan.err (thEn Tq (pkb1 Tq)).scan.rdone (thEn Tq (pkb1 Tq)).scan.rval Xq.sx.pr)) n (thEn (thEn Tq (pkb1 Tq)) (pkb2 (thEn Tq (pkb1 Tq)))) Xq (by (try dsimp only); have p0_ := hp; have p1_ := he; have o_ := out_nr hW.dm h6; have ev_ := hv h6; rw [← hw13_.tt, ← hTq_, ← hw13_.ell] at ev_; have ea := thEn_ev Tq (pkb1 Tq); omega) _ ⟨(dget hR_ 2 rfl).w, (dget hR_ 2 rfl).m, (dget hR_ 2 rfl).l, (dget hR_ 2 rfl).n, (dget hR_ 2 rfl).dd, (row_blk (hR_.get 0 rfl)), (by rw [evEn_len]; exact (by rw [evEn_len]; exact (by rw [evSt_len]; exact hle18_))), (by rw [evEn_len]; exact (by rw [evEn_len]; exact (by rw [evSt_len]; exact hs18_))), (evEn_deep (evEn_deep (evSt_deep (dget hR_ 2 rfl).de) .nil) (tget hR_ 1 rfl).s.p), (dget hR_ 2 rfl).tm, (evEn_mapE (evEn_mapE (evSt_mapE (dget hR_ 2 rfl).em)))⟩ (TAt.en (TAt.en (tget hR_ 1 rfl)))).mono ?_
          rintro e_ W1_ ⟨rx30_, rfl, hw30_, hf30_, he31_, he32_, hb_⟩
          refine ⟨_, [dRep (m20Thread (AD.mk ((m20Step (m20P1 d n) n).1).w ((m20Step (m20P1 d n) n).1).ts (eaEn (eaEn (eaSt ((m20Step (m20P1 d n) n).1).es Tq.event ((m20Step (m20P1 d n) n).2)) Tq.event (pkb1 Tq) d.time Tq.call.result.err Tq.call.result.done Tq.call.result.val) (thEn Tq (pkb1 Tq)).event (pkb2 (thEn Tq (pkb1 Tq))) d.time (thEn Tq (pkb1 Tq)).scan.err (thEn Tq (pkb1 Tq)).scan.rdone (thEn Tq (pkb1 Tq)).scan.rval) ((m20Step (m20P1 d n) n).1).time) n (thEn (thEn Tq (pkb1 Tq)) (pkb2 (thEn Tq (pkb1 Tq))))) rx30_], rfl, hb_, (NewOk.cons hw30_ (hf30_.two (fun k_ => (fun h_ => h_.elim (fun h_ => ⟨_, mG 2 rfl, (.inl h_)⟩) (fun h_ => h_.elim (fun h_ => ⟨_, mG 2 rfl, (.inr (.inl h_))⟩) (fun h_ => h_.elim (fun h_ => ⟨_, mG 2 rfl, (.inr (.inr (.inl h_)))⟩) (fun h_ => h_.elim (fun h_ => ⟨_, mG 0 rfl, (rowBl_blk h_)⟩) (fun h_ => evEn_bl h_ (fun h_ => evEn_bl h_ (fun h_ => (fun h_ => ⟨_, mG 2 rfl, (.inr (.inr (.inr (.inr h_))))⟩) (evSt_bl h_)) rowBl_none) (fun h_ => ⟨_, mG 1 rfl, (.inr (.inr (.inr h_)))⟩))))))) (fun k_ => (fun h_ => (fun h_ => (fun h_ => ⟨_, mG 1 rfl, h_⟩) (tBl_en h_)) (tBl_en h_)))) NewOk.nil), ?_⟩
          refine rZ 15 ?_
          have hm_ : m20Pick d n = ((AD.mk (m20Thread (AD.mk ((m20Step (m20P1 d n) n).1).w ((m20Step (m20P1 d n) n).1).ts (eaEn (eaEn (eaSt ((m20Step (m20P1 d n) n).1).es Tq.event ((m20Step (m20P1 d n) n).2)) Tq.event (pkb1 Tq) d.time Tq.call.result.err Tq.call.result.done Tq.call.result.val) (thEn Tq (pkb1 Tq)).event (pkb2 (thEn Tq (pkb1 Tq))) d.time (thEn Tq (pkb1 Tq)).scan.err (thEn Tq (pkb1 Tq)).scan.rdone (thEn Tq (pkb1 Tq)).scan.rval) ((m20Step (m20P1 d n) n).1).time) n (thEn (thEn Tq (pkb1 Tq)) (pkb2 (thEn Tq (pkb1 Tq))))).w (m20Thread (AD.mk ((m20Step (m20P1 d n) n).1).w ((m20Step (m20P1 d n) n).1).ts (eaEn (eaEn (eaSt ((m20Step (m20P1 d n) n).1).es Tq.event ((m20Step (m20P1 d n) n).2)) Tq.event (pkb1 Tq) d.time Tq.call.result.err Tq.call.result.done Tq.call.result.val) (thEn Tq (pkb1 Tq)).event (pkb2 (thEn Tq (pkb1 Tq))) d.time (thEn Tq (pkb1 Tq)).scan.err (thEn Tq (pkb1 Tq)).scan.rdone (thEn Tq (pkb1 Tq)).scan.rval) ((m20Step (m20P1 d n) n).1).time) n (thEn (thEn Tq (pkb1 Tq)) (pkb2 (thEn Tq (pkb1 Tq))))).ts (m20Thread (AD.mk ((m20Step (m20P1 d n) n).1).w ((m20Step (m20P1 d n) n).1).ts (eaEn (eaEn (eaSt ((m20Step (m20P1 d n) n).1).es Tq.event ((m20Step (m20P1 d n) n).2)) Tq.event (pkb1 Tq) d.time Tq.call.result.err Tq.call.result.done Tq.call.result.val) (thEn Tq (pkb1 Tq)).event (pkb2 (thEn Tq (pkb1 Tq))) d.time (thEn Tq (pkb1 Tq)).scan.err (thEn Tq (pkb1 Tq)).scan.rdone (thEn Tq (pkb1 Tq)).scan.rval) ((m20Step (m20P1 d n) n).1).time) n (thEn (thEn Tq (pkb1 Tq)) (pkb2 (thEn Tq (pkb1 Tq))))).es (IntKind.i64.wrap (d.time + 1))), true) := by unfold m20Pick; rw [h6]; simp only [hTq_, hw13_.tt]; rfl
          refine qR [.agg (encD (AD.mk (m20Thread (AD.mk ((m20Step (m20P1 d n) n).1).w ((m20Step (m20P1 d n) n).1).ts (eaEn (eaEn (eaSt ((m20Step (m20P1 d n) n).1).es Tq.event ((m20Step (m20P1 d n) n).2)) Tq.event (pkb1 Tq) d.time Tq.call.result.err Tq.call.result.done Tq.call.result.val) (thEn Tq (pkb1 Tq)).event (pkb2 (thEn Tq (pkb1 Tq))) d.time (thEn Tq (pkb1 Tq)).scan.err (thEn Tq (pkb1 Tq)).scan.rdone (thEn Tq (pkb1 Tq)).scan.rval) ((m20Step (m20P1 d n) n).1).time) n (thEn (thEn Tq (pkb1 Tq)) (pkb2 (thEn Tq (pkb1 Tq))))).w (m20Thread (AD.mk ((m20Step (m20P1 d n) n).1).w ((m20Step (m20P1 d n) n).1).ts (eaEn (eaEn (eaSt ((m20Step (m20P1 d n) n).1).es Tq.event ((m20Step (m20P1 d n) n).2)) Tq.event (pkb1 Tq) d.time Tq.call.result.err Tq.call.result.done Tq.call.result.val) (thEn Tq (pkb1 Tq)).event (pkb2 (thEn Tq (pkb1 Tq))) d.time (thEn Tq (pkb1 Tq)).scan.err (thEn Tq (pkb1 Tq)).scan.rdone (thEn Tq (pkb1 Tq)).scan.rval) ((m20Step (m20P1 d n) n).1).time) n (thEn (thEn Tq (pkb1 Tq)) (pkb2 (thEn Tq (pkb1 Tq))))).ts (m20Thread (AD.mk ((m20Step (m20P1 d n) n).1).w ((m20Step (m20P1 d n) n).1).ts (eaEn (eaEn (eaSt ((m20Step (m20P1 d n) n).1).es Tq.event ((m20Step (m20P1 d n) n).2)) Tq.event (pkb1 Tq) d.time Tq.call.result.err Tq.call.result.done Tq.call.result.val) (thEn Tq (pkb1 Tq)).event (pkb2 (thEn Tq (pkb1 Tq))) d.time (thEn Tq (pkb1 Tq)).scan.err (thEn Tq (pkb1 Tq)).scan.rdone (thEn Tq (pkb1 Tq)).scan.rval) ((m20Step (m20P1 d n) n).1).time) n (thEn (thEn Tq (pkb1 Tq)) (pkb2 (thEn Tq (pkb1 Tq))))).es (IntKind.i64.wrap (d.time + 1))) (DX.mk rx30_.x rx30_.A rx30_.C rx30_.l rx30_.eA rx30_.eC rx30_.es)).toArray, .bool true] (fun W1_ hT_ hR_ hF_ => ?_)
          rw [hm_]
          exact ⟨(DX.mk rx30_.x rx30_.A rx30_.C rx30_.l rx30_.eA rx30_.eC rx30_.es), rfl, ⟨(dget hR_ 0 rfl).w, (dget hR_ 0 rfl).m, (dget hR_ 0 rfl).l, (dget hR_ 0 rfl).n, (dget hR_ 0 rfl).dd, (dget hR_ 0 rfl).me, (dget hR_ 0 rfl).le, (dget hR_ 0 rfl).ne, (dget hR_ 0 rfl).de, (dget hR_ 0 rfl).tm, (dget hR_ 0 rfl).em⟩, (fun k_ => (fun h_ => h_.elim (fun h_ => hF_ _ (mG 0 rfl) k_ (.inl h_)) (fun h_ => h_.elim (fun h_ => hF_ _ (mG 0 rfl) k_ (.inr (.inl h_))) (fun h_ => h_.elim (fun h_ => hF_ _ (mG 0 rfl) k_ (.inr (.inr (.inl h_)))) (fun h_ => h_.elim (fun h_ => hF_ _ (mG 0 rfl) k_ (.inr (.inr (.inr (.inl h_))))) (fun h_ => hF_ _ (mG 0 rfl) k_ (.inr (.inr (.inr (.inr h_)))))))))), (by first | rfl | exact he31_.trans (he14_.trans hl1_)), (by first | exact hM.mono (Nat.le_succ _) | exact he32_ (K + 1) (by rw [hXq_]; exact MXle.get (he15_ K hM1_) _) (he15_ K hM1_)), hT_.below⟩
end Go.Proofs.Ytbhakljebcmocaa.PBoundKeeps
end
section
namespace Go.Proofs.Ytbhakljebcmocaa.PBoundKeeps
open Go.RowKit Go.Proofs.YtbhakljebcmocaaW.PrintWords Go.Proofs.YtbhakljebcmocaaW.PrintLast Go.Proofs.YtbhakljebcmocaaW.PrintMore
set_option linter.unusedVariables false
set_option linter.unusedSimpArgs false
theorem bif_p {α : Type} {p : α → Prop} {b : Bool} {x y : α} (h1 : p x) (h2 : p y) : p (bif b then x else y) := by cases b <;> assumption
theorem m10Look_c (w : RW) (x : WalkR) : (m10Look w x).1.c = w.c := by
 unfold m10Look
 repeat' (first | rfl | apply bif_p (p := fun r : RW × WalkR => r.1.c = w.c))
theorem m10Unlink_c (w : RW) (x : WalkR) : (m10Unlink w x).1.c = w.c := by
 unfold m10Unlink
 repeat' (first | rfl | apply bif_p (p := fun r : RW × WalkR => r.1.c = w.c))
theorem m10Step_c (w : RW) (x : WalkR) : (m10Step w x).1.c = w.c := by
 unfold m10Step
 repeat' (first | rfl | exact m10Look_c w x | exact m10Unlink_c w x | apply bif_p (p := fun r : RW × WalkR => r.1.c = w.c))
theorem m11Lay_c (w : RW) (x : PutR) : (m11Lay w x).1.c = w.c := by
 unfold m11Lay
 repeat' (first | rfl | apply bif_p (p := fun r : RW × PutR => r.1.c = w.c))
theorem m11Step_c (w : RW) (x : PutR) : (m11Step w x).1.c = w.c := by
 unfold m11Step
 repeat' (first | rfl | exact m10Step_c w x.walk | exact m11Lay_c w x | apply bif_p (p := fun r : RW × PutR => r.1.c = w.c))
theorem m12Asks_c (w : RW) (x : TakeR) : (m12Asks w x).1.c = w.c := by
 unfold m12Asks
 repeat' (first | rfl | apply bif_p (p := fun r : RW × TakeR => r.1.c = w.c))
theorem m12Walks_c (w : RW) (x : TakeR) : (m12Walks w x).1.c = w.c := by
 unfold m12Walks
 repeat' (first | rfl | exact m10Step_c w x.walk | apply bif_p (p := fun r : RW × TakeR => r.1.c = w.c))
theorem m12Step_c (w : RW) (x : TakeR) : (m12Step w x).1.c = w.c := by
 unfold m12Step
 repeat' (first | rfl | exact m12Asks_c w x | exact m12Walks_c w x | apply bif_p (p := fun r : RW × TakeR => r.1.c = w.c))
theorem m13Step_c (w : RW) (x : GetR) : (m13Step w x).1.c = w.c := by
 unfold m13Step
 repeat' (first | rfl | exact m10Step_c w x.walk | apply bif_p (p := fun r : RW × GetR => r.1.c = w.c))
theorem m14Step_c (w : RW) (x : ActR) : (m14Step w x).1.c = w.c := by
 unfold m14Step
 repeat' (first | rfl | exact m11Step_c w x.place | exact m12Step_c w x.take | exact m13Step_c w x.get | apply bif_p (p := fun r : RW × ActR => r.1.c = w.c))
theorem m15Step_c (w : RW) (x : HelpR) : (m15Step w x).1.c = w.c := by
 unfold m15Step
 repeat' (first | rfl | exact m14Step_c w x.act | apply bif_p (p := fun r : RW × HelpR => r.1.c = w.c))
theorem m16New_c (w : RW) (t n : Int) (x : S48) : (m16New w t n x).1.c = w.c := by
 unfold m16New
 repeat' (first | rfl | apply bif_p (p := fun r : RW × CallR => r.1.c = w.c))
theorem m16Own_c (w : RW) (x : CallR) : (m16Own w x).1.c = w.c := by
 unfold m16Own
 repeat' (first | rfl | exact m14Step_c w x.act | apply bif_p (p := fun r : RW × CallR => r.1.c = w.c))
theorem m16Step_c (w : RW) (x : CallR) : (m16Step w x).1.c = w.c := by
 unfold m16Step
 repeat' (first | rfl | exact m15Step_c w x.help | exact m16Own_c w x | apply bif_p (p := fun r : RW × CallR => r.1.c = w.c))
theorem m18New_c (w : RW) (t : Int) (x : S48) : (m18New w t x).1.c = w.c := by
 unfold m18New
 repeat' (first | rfl | apply bif_p (p := fun r : RW × ScR => r.1.c = w.c))
theorem m18Step_c (w : RW) (x : ScR) : (m18Step w x).1.c = w.c := by
 unfold m18Step
 repeat' (first | rfl | apply bif_p (p := fun r : RW × ScR => r.1.c = w.c))
structure TOk (t : TR) (m : Nat) : Prop where
 n0 : 0 ≤ t.next
 n1 : t.next ≤ (t.prog.length : Int)
 pl : t.prog.length ≤ 1000000
 ev : t.going ≠ 0 → 0 ≤ t.event ∧ t.event < (m : Int)
structure PI (d : AD) : Prop where
 t : ∀ i, TOk (d.ts.getD i zTR) d.es.length
 c0 : 0 ≤ d.w.c.f1
 c1 : d.w.c.f1 ≤ 64
theorem TOk.mono {t : TR} {m k : Nat} (h : TOk t m) (hm : m ≤ k) : TOk t k := ⟨h.n0, h.n1, h.pl, fun q => ⟨(h.ev q).1, by have := (h.ev q).2; omega⟩⟩
theorem TOk.z {m : Nat} : TOk zTR m := ⟨Int.le_refl _, Int.le_refl _, Nat.zero_le _, fun q => absurd rfl q⟩
theorem getD_set_or {α : Type} (l : List α) (n i : Nat) (y z : α) : (l.set n y).getD i z = y ∨ (l.set n y).getD i z = l.getD i z := by
 by_cases h : n = i
 ·subst h
  by_cases h2 : n < l.length
  ·exact .inl (getD_set_eq h2)
  ·rw [List.set_eq_of_length_le (by omega)]; exact .inr rfl
 ·refine .inr ?_
  rw [List.getD_eq_getElem?_getD, List.getD_eq_getElem?_getD, List.getElem?_set_ne h]
theorem PI.set {d : AD} (h : PI d) {w : RW} {n : Nat} {t : TR} {es : List EA} {m : Int} (hw : w.c = d.w.c) (he : d.es.length ≤ es.length) (ht : TOk t es.length) : PI (AD.mk w (d.ts.set n t) es m) := by
 refine ⟨fun i => ?_, ?_, ?_⟩
 ·show TOk ((d.ts.set n t).getD i zTR) es.length
  rcases getD_set_or d.ts n i t zTR with e | e <;> rw [e]
  ·exact ht
  ·exact (h.t i).mono he
 ·show 0 ≤ w.c.f1
  rw [hw]; exact h.c0
 ·show w.c.f1 ≤ 64
  rw [hw]; exact h.c1
theorem PI.begin {d : AD} (h : PI d) {n : Int} (hn : (d.ts.getD (Int.toNat n) zTR).next < ((d.ts.getD (Int.toNat n) zTR).prog.length : Int)) : PI (m20Begin d n) ∧ (m20Begin d n).es.length = d.es.length + 1 ∧ (0 ≤ n ∧ n < (d.ts.length : Int) → ((m20Begin d n).ts.getD (Int.toNat n) zTR).going ≠ 0) := by
 have ht := h.t (Int.toNat n)
 have hw : IntKind.i64.wrap ((d.ts.getD (Int.toNat n) zTR).next + 1) = (d.ts.getD (Int.toNat n) zTR).next + 1 := w64 (by have := ht.n0; omega) (by have := ht.pl; omega)
 have hb : ∀ (w : RW) (g : Int) (c : CallR) (s : ScR) (wh : Int) (e : EA), w.c = d.w.c → g ≠ 0 → PI (m20Thread (AD.mk w d.ts (d.es ++ [e]) d.time) n (TR.mk (d.ts.getD (Int.toNat n) zTR).prog (IntKind.i64.wrap ((d.ts.getD (Int.toNat n) zTR).next + 1)) wh g c s (d.es.length : Int))) ∧ (m20Thread (AD.mk w d.ts (d.es ++ [e]) d.time) n (TR.mk (d.ts.getD (Int.toNat n) zTR).prog (IntKind.i64.wrap ((d.ts.getD (Int.toNat n) zTR).next + 1)) wh g c s (d.es.length : Int))).es.length = d.es.length + 1 ∧ (0 ≤ n ∧ n < (d.ts.length : Int) → ((m20Thread (AD.mk w d.ts (d.es ++ [e]) d.time) n (TR.mk (d.ts.getD (Int.toNat n) zTR).prog (IntKind.i64.wrap ((d.ts.getD (Int.toNat n) zTR).next + 1)) wh g c s (d.es.length : Int))).ts.getD (Int.toNat n) zTR).going ≠ 0) := fun w g c s wh e h1 h2 => by
  unfold m20Thread
  refine ⟨h.set h1 (by simp) ⟨?_, ?_, ht.pl, fun _ => ⟨Int.natCast_nonneg _, ?_⟩⟩, by simp, fun hr => ?_⟩
  ·show 0 ≤ IntKind.i64.wrap _
   rw [hw]; have := ht.n0; omega
  ·show IntKind.i64.wrap _ ≤ ((d.ts.getD (Int.toNat n) zTR).prog.length : Int)
   rw [hw]; omega
  ·show ((d.es.length : Nat) : Int) < ((d.es ++ [e]).length : Nat)
   rw [List.length_append, List.length_singleton]
   omega
  ·show ((d.ts.set (Int.toNat n) _).getD (Int.toNat n) zTR).going ≠ 0
   rw [getD_set_eq (by omega)]
   exact h2
 unfold m20Begin
 refine bif_p (p := fun r : AD => PI r ∧ r.es.length = d.es.length + 1 ∧ (0 ≤ n ∧ n < (d.ts.length : Int) → (r.ts.getD (Int.toNat n) zTR).going ≠ 0)) (hb _ _ _ _ _ _ (m18New_c _ _ _) (by decide)) (hb _ _ _ _ _ _ (m16New_c _ _ _ _) (by decide))
theorem PI.step {d : AD} (h : PI d) (n : Int) : PI (m20Step d n).1 ∧ (m20Step d n).1.es = d.es ∧ (0 ≤ n ∧ n < (d.ts.length : Int) → ((m20Step d n).1.ts.getD (Int.toNat n) zTR).going = (d.ts.getD (Int.toNat n) zTR).going) := by
 have ht := h.t (Int.toNat n)
 have hb : ∀ (w : RW) (c : CallR) (s : ScR) (b : Bool), w.c = d.w.c → (fun r : AD × Bool => PI r.1 ∧ r.1.es = d.es ∧ (0 ≤ n ∧ n < (d.ts.length : Int) → (r.1.ts.getD (Int.toNat n) zTR).going = (d.ts.getD (Int.toNat n) zTR).going)) (m20Thread (AD.mk w d.ts d.es d.time) n (TR.mk (d.ts.getD (Int.toNat n) zTR).prog (d.ts.getD (Int.toNat n) zTR).next (d.ts.getD (Int.toNat n) zTR).whom (d.ts.getD (Int.toNat n) zTR).going c s (d.ts.getD (Int.toNat n) zTR).event), b) := fun w c s b h1 => by
  unfold m20Thread
  refine ⟨h.set h1 (Nat.le_refl _) ⟨ht.n0, ht.n1, ht.pl, ht.ev⟩, rfl, fun hr => ?_⟩
  show ((d.ts.set (Int.toNat n) _).getD (Int.toNat n) zTR).going = _
  rw [getD_set_eq (by omega)]
 unfold m20Step
 exact bif_p (p := fun r : AD × Bool => PI r.1 ∧ r.1.es = d.es ∧ (0 ≤ n ∧ n < (d.ts.length : Int) → (r.1.ts.getD (Int.toNat n) zTR).going = (d.ts.getD (Int.toNat n) zTR).going)) (hb _ _ _ _ (m18Step_c _ _)) (hb _ _ _ _ (m16Step_c _ _))
theorem PI.p1 {d : AD} (h : PI d) {n : Int} (ho : m20Out d n = false) : PI (m20P1 d n) ∧ (m20P1 d n).es.length ≤ d.es.length + 1 ∧ d.es.length ≤ (m20P1 d n).es.length ∧ ((m20P1 d n).ts.getD (Int.toNat n) zTR).going ≠ 0 ∧ (m20P1 d n).ts.length = d.ts.length := by
 obtain ⟨h0, h1, h2⟩ := out_n ho
 unfold m20P1
 by_cases hg : (d.ts.getD (Int.toNat n) zTR).going = 0
 ·rw [show ((d.ts.getD (Int.toNat n) zTR).going == 0) = true by rw [hg]; rfl]
  have hq := h2 hg
  have hn := (h.t (Int.toNat n)).n1
  obtain ⟨q1, q2, q3⟩ := h.begin (n := n) (by omega)
  refine ⟨q1, Nat.le_of_eq q2, by show d.es.length ≤ (m20Begin d n).es.length; omega, q3 ⟨h0, h1⟩, ?_⟩
  show (m20Begin d n).ts.length = _
  unfold m20Begin m20Thread
  exact bif_p (p := fun r : AD => r.ts.length = d.ts.length) List.length_set List.length_set
 ·rw [show ((d.ts.getD (Int.toNat n) zTR).going == 0) = false by simpa using hg]
  exact ⟨h, by show d.es.length ≤ _; omega, Nat.le_refl _, hg, rfl⟩
theorem PI.hv {d : AD} (h : PI d) (n : Int) (ho : m20Out d n = false) : 0 ≤ ((m20Step (m20P1 d n) n).1.ts.getD (Int.toNat n) zTR).event ∧ ((m20Step (m20P1 d n) n).1.ts.getD (Int.toNat n) zTR).event < ((m20Step (m20P1 d n) n).1.es.length : Int) := by
 obtain ⟨q1, q2, q3, q4, q5⟩ := h.p1 ho
 obtain ⟨h0, h1, _⟩ := out_n ho
 obtain ⟨s1, s2, s3⟩ := q1.step n
 exact (s1.t (Int.toNat n)).ev (by rw [s3 ⟨h0, by omega⟩]; exact q4)
theorem eaSt_len (l : List EA) (i : Int) (b : Bool) : (eaSt l i b).length = l.length := by cases b; rfl; exact List.length_set
theorem eaEn_len (l : List EA) (i : Int) (b : Bool) (a err : Int) (dn : Bool) (v : Int) : (eaEn l i b a err dn v).length = l.length := by cases b; rfl; exact List.length_set
theorem TOk.en {t : TR} {m : Nat} {b : Bool} (h : TOk t m) : TOk (thEn t b) m := by
 cases b
 ·exact h
 ·exact ⟨h.n0, h.n1, h.pl, fun q => absurd rfl q⟩
theorem pkE_len (l : List EA) (t : TR) (b : Bool) (a : Int) : (pkE l t b a).length = l.length := by unfold pkE; rw [eaEn_len, eaEn_len, eaSt_len]
theorem PI.pick {d : AD} (h : PI d) (n : Int) : PI (m20Pick d n).1 ∧ (m20Pick d n).1.es.length ≤ d.es.length + 1 := by
 unfold m20Pick
 cases ho : m20Out d n
 ·obtain ⟨q1, q2, q3, q4, q5⟩ := h.p1 ho
  obtain ⟨s1, s2, s3⟩ := q1.step n
  refine ⟨s1.set rfl (by rw [pkE_len]; exact Nat.le_refl _) ?_, by show (pkE _ _ _ _).length ≤ _; rw [pkE_len, s2]; exact q2⟩
  rw [pkE_len]
  exact ((s1.t (Int.toNat n)).en).en
 ·exact ⟨⟨h.t, h.c0, h.c1⟩, Nat.le_succ _⟩
theorem PI.pk : ∀ (l : List Int) {d : AD}, PI d → PI (m20Pk d l) ∧ (m20Pk d l).es.length ≤ d.es.length + l.length
 | [], d, h => ⟨h, Nat.le_refl _⟩
 | n :: r, d, h => by
  obtain ⟨h1, h2⟩ := PI.pk r (h.pick n).1
  refine ⟨h1, ?_⟩
  show (m20Pk (m20Pick d n).1 r).es.length ≤ _
  have := (h.pick n).2
  rw [List.length_cons]
  omega
theorem PI.new {c : S23} (hO : OkC c) {g : List (List S48)} (hg : ∀ q, q ∈ g → q.length ≤ 4) : PI (m20New c g).1 := by
 refine ⟨fun i => ?_, by show 0 ≤ c.f1; have := isPow_le hO.2.1; omega, (isPow_le hO.2.1).2⟩
 show TOk ((nwM c g _).getD i zTR) 0
 ·rcases getD_mem (nwM c g (Int.toNat c.f0)) i zTR with e | e
  ·obtain ⟨j, _, hj⟩ := List.mem_map.mp e
   rw [← hj]
   have hl : (g.getD j []).length ≤ 4 := by
    rcases getD_mem g j [] with e | e
    ·exact hg _ e
    ·rw [e]; exact Nat.zero_le _
   exact ⟨Int.le_refl _, by show (0 : Int) ≤ ((g.getD j []).length : Int); omega, by show (g.getD j []).length ≤ _; omega, fun q => absurd rfl q⟩
  ·rw [e]; exact .z
def m20Run (c : S23) (g : List (List S48)) (p : List Int) : AD × Int := (m20Pk (m20New c g).1 p, 0)
theorem rn_ {X : AD} {p : List Int} {i : Int} (h0 : 0 ≤ i) (h1 : i < (p.length : Int)) (h2 : p.length ≤ 240) : (m20Pick (m20Pk X (p.take (Int.toNat i))) (p.getD (Int.toNat i) 0)).1 = m20Pk X (p.take (Int.toNat (IntKind.i64.wrap (i + 1)))) := by
 rw [w64 (by omega) (by omega), show Int.toNat (i + 1) = Int.toNat i + 1 by omega, ← m20Pk_snoc]
 rw [List.take_add_one, List.getD_eq_getElem?_getD, List.getElem?_eq_getElem (by omega)]
 rfl
theorem rm_ {l : List TH} {i : Int} {n : Nat} (h0 : 0 ≤ i) (h1 : i < (n : Int)) (h2 : n ≤ 240) (h : MXle l (Int.toNat i + 1)) : MXle l (Int.toNat (IntKind.i64.wrap (i + 1))) := by
 rw [w64 (by omega) (by omega), show Int.toNat (i + 1) = Int.toNat i + 1 by omega]
 exact h
theorem wj_ {i : Int} {n : Nat} (h0 : 0 ≤ i) (h1 : i < (n : Int)) (h2 : n ≤ 240) : 0 ≤ IntKind.i64.wrap (i + 1) ∧ IntKind.i64.wrap (i + 1) ≤ (n : Int) ∧ ((n : Int) - IntKind.i64.wrap (i + 1)).toNat < ((n : Int) - i).toNat := by
 rw [w64 (by omega) (by omega)]
 omega
def zDocL : List Value := [.int .i64 0, .int .i64 0, .int .i64 0, .int .i64 0, .int .i64 0, .slice none 0 0, .int .i64 0, .int .i64 0, .int .i64 0, .int .i64 0, .int .i64 0, .int .i64 0, .slice none 0 0, .slice none 0 0, .slice none 0 0, .slice none 0 0, .slice none 0 0, .slice none 0 0, .slice none 0 0, .int .i64 0]
def m20NewX (c : S23) (g : List (List S48)) : Unit × Int := ((), 1)
def m20RunX (c : S23) (g : List (List S48)) (p : List Int) : Unit × Int := ((), 1)
end Go.Proofs.Ytbhakljebcmocaa.PBoundKeeps
end
section
namespace Go.Proofs.Ytbhakljebcmocaa.PBoundKeeps
open Go.RowKit Go.Proofs.YtbhakljebcmocaaW.PrintWords Go.Proofs.YtbhakljebcmocaaW.PrintLast Go.Proofs.YtbhakljebcmocaaW.PrintMore
set_option linter.unusedVariables false
set_option maxHeartbeats 1000000
set_option maxRecDepth 100000
set_option linter.unusedSimpArgs false
def k20_New.l1.c (c : S23) (g : (List (List S48))) (rg : GX) (rx1_ : RX) (x_ : Bool × Int × (List TH) × Nat × (List Value) × (Nat → Value)) : St := match x_ with | ⟨true, i, l, c0, sp0, tv_⟩ => ⟨[some ⟨true, 23, (encC c).map .v⟩, some ⟨true, 41, (encD (AD.mk (RW.mk ⟨0, 0, 0, 0, 0⟩ [] 0 (RB.mk ⟨0, 0, 0, 0, 0⟩ [] [] [] [] [])) [] [] 0) (DX.mk (RX.mk none 0 (RA.mk none none none none none 0 0 0 0 0)) none 0 [] none 0 [])).map .v⟩, some ⟨true, 37, (encW ((m08New c).1) rx1_).map .v⟩, some ⟨true, 41, (encD (AD.mk ((m08New c).1) [] [] 0) (DX.mk rx1_ none 0 [] none 0 [])).map .v⟩], tvl tv_ 55 [(1, .v (.slice rg.A rg.l.length rg.C)), (2, .ad 0 0), (4, .ad 1 0), (5, .v (.int .i64 0)), (8, .ad 3 0), (9, .v (.int .i64 i))]⟩ | ⟨false, i, l, c0, sp0, tv_⟩ => ⟨[some ⟨true, 23, (encC c).map .v⟩, some ⟨true, 41, (encD (AD.mk (RW.mk ⟨0, 0, 0, 0, 0⟩ [] 0 (RB.mk ⟨0, 0, 0, 0, 0⟩ [] [] [] [] [])) [] [] 0) (DX.mk (RX.mk none 0 (RA.mk none none none none none 0 0 0 0 0)) none 0 [] none 0 [])).map .v⟩, some ⟨true, 37, (encW ((m08New c).1) rx1_).map .v⟩, some ⟨true, 41, [.v (.int .i64 ((m08New c).1).c.f0), .v (.int .i64 ((m08New c).1).c.f1), .v (.int .i64 ((m08New c).1).c.f2), .v (.int .i64 ((m08New c).1).c.f3), .v (.int .i64 ((m08New c).1).c.f4), .v (.slice rx1_.A ((m08New c).1).ws.length rx1_.C), .v (.int .i64 ((m08New c).1).st), .v (.int .i64 ((m08New c).1).b.c.f0), .v (.int .i64 ((m08New c).1).b.c.f1), .v (.int .i64 ((m08New c).1).b.c.f2), .v (.int .i64 ((m08New c).1).b.c.f3), .v (.int .i64 ((m08New c).1).b.c.f4), .v (.slice rx1_.r.a5 ((m08New c).1).b.calls.length rx1_.r.c5), .v (.slice rx1_.r.a6 ((m08New c).1).b.ins.length rx1_.r.c6), .v (.slice rx1_.r.a7 ((m08New c).1).b.made.length rx1_.r.c7), .v (.slice rx1_.r.a8 ((m08New c).1).b.ops.length rx1_.r.c8), .v (.slice rx1_.r.a9 ((m08New c).1).b.nodes.length rx1_.r.c9), .sl 4 l.length c0, .v (.slice none 0 0), .v (.int .i64 0)]⟩, some ⟨true, 87, (List.flatMap thE l ++ sp0).map .v⟩], tvl tv_ 55 [(1, .v (.slice rg.A rg.l.length rg.C)), (2, .ad 0 0), (4, .ad 1 0), (5, .v (.int .i64 0)), (8, .ad 3 0), (9, .v (.int .i64 i))]⟩
def k20_New.l1.r (c : S23) (g : (List (List S48))) (rg : GX) (rx1_ : RX) (x_ : Bool × Int × (List TH) × Nat × (List Value) × (Nat → Value)) : List PRep := match x_ with | ⟨true, i, l, c0, sp0, tv_⟩ => [wRep ((m08New c).1) rx1_, gRep g rg] | ⟨false, i, l, c0, sp0, tv_⟩ => [wRep ((m08New c).1) rx1_, gRep g rg]
def k20_New.l1.i (c : S23) (g : (List (List S48))) (rg : GX) (rx1_ : RX) (x_ : Bool × Int × (List TH) × Nat × (List Value) × (Nat → Value)) : Prop := match x_ with | ⟨true, i, l, c0, sp0, tv_⟩ => i = 0 ∧ l = [] | ⟨false, i, l, c0, sp0, tv_⟩ => 1 ≤ i ∧ i ≤ c.f0 ∧ l = nwL c rg i.toNat ∧ (List.flatMap thE l ++ sp0).length = c0 * 143 ∧ l.length ≤ c0 ∧ c0 ≤ maxLen
theorem k20_New (c : S23) (g : (List (List S48))) (rg : GX) (hO : OkC c) (hg : (rg.l.length : Int) ≤ c.f0) (W : World) (hW : GAt W g rg) : Calls Try.prog 13 #[.agg (encC c).toArray, .slice rg.A rg.l.length rg.C] W (fun e W' => ∃ r0 : DX, e = .returned (.tuple #[.agg (encD ((m20New c g).1) r0).toArray, .int .i64 (m20New c g).2]) ∧ DAt W' (m20New c g).1 r0 ∧ FreshIn [gRep g rg] W (dRep (m20New c g).1 r0) ∧ r0.l.length = Int.toNat c.f0 ∧ MXle r0.l 0 ∧ Below W.heap.size W W') := by
 refine rf_enter (args := [.agg (encC c).toArray, .slice rg.A rg.l.length rg.C]) [gRep g rg] Try.func13 rfl (by intro r hr; obtain rfl := List.mem_singleton.mp hr; exact hW) ?_
 refine rX 9 ?_
 refine qC [.agg (encC c).toArray] fun W_ hT_ hR_ => (k08_New c hO _).mono ?_
 rintro e_ W1_ ⟨rx1_, rfl, hw1_, hf1_, hb_⟩
 refine ⟨_, [wRep ((m08New c).1) rx1_], rfl, hb_, (NewOk.cons hw1_ (fresh_nil hf1_) NewOk.nil), ?_⟩
 refine rZ 13 ?_
 refine qI ((m08New c).2 != 0) (fun hx_ => by rw [(show ((m08New c).2 != 0) = false from rfl)] at hx_; cases hx_) (fun hx_ => ?_)
 clear hx_
 refine rZ 10 ?_
 refine qI (decide ((rg.l.length : Int) > c.f0)) (fun hx_ => by rw [(decide_eq_false (by omega) : decide ((rg.l.length : Int) > c.f0) = false)] at hx_; cases hx_) (fun hx_ => ?_)
 clear hx_
 refine rZ 14 ?_
 refine rG [1, 2, 4, 5, 8, 9] (fun tv4_ => ?_)
 refine qU (k20_New.l1.c c g rg rx1_) (k20_New.l1.r c g rg rx1_) (k20_New.l1.i c g rg rx1_) (fun x_ => (c.f0 - x_.2.1).toNat) (by kernel_rfl) ⟨true, 0, [], 0, [], tv4_⟩ ⟨rfl, rfl⟩ (by kernel_rfl) (by simp [k20_New.l1.r]) ?_
 rintro ⟨fl_, i, l, c0, sp0, tv5_⟩ hI_
 cases fl_
 ·obtain ⟨hi1_, hi2_, hl_, hall0_, hle0_, hmx0_⟩ := hI_
  refine rZ 8 ?_
  refine qI (decide (i < c.f0)) (fun h6 => ?_) (fun h6 => ?_)
  ·refine rZ 8 ?_
   refine qV [.int .i64 i, .int .i64 c.f0] (fun W_ hT_ hR_ => c15_Next i c.f0 _) ?_
   refine rZ 12 ?_
   refine qI (decide (i < (rg.l.length : Int))) (fun h7 => ?_) (fun h7 => ?_)
   ·refine rZ 3 ?_
    refine rK (p := ∃ ad, rg.A = some ad) (fun W_ hR_ => row_some ((gget hR_ 1 rfl).m (ne_of (by have b0_ := oT h6; have b1_ := oT h7; have p0_ := hO.1.1; have p1_ := hO.1.2; have p2_ := hg; have ll_ := nwL_lenE hl_; omega))) (by rw [flat_len pcE_len]; exact Nat.mul_pos (by have b0_ := oT h6; have b1_ := oT h7; have p0_ := hO.1.1; have p1_ := hO.1.2; have p2_ := hg; have ll_ := nwL_lenE hl_; omega) (by decide))) ?_
    rintro ⟨ad8_, had8_⟩
    refine qX (t := 24) (e := 58) (s := 1) (b := 24) (A := rg.A) (n := rg.l.length) (c := rg.C) (k := .i64) (i := i) ad8_ had8_ (by have b0_ := oT h6; have b1_ := oT h7; have p0_ := hO.1.1; have p1_ := hO.1.2; have p2_ := hg; have ll_ := nwL_lenE hl_; omega) (by have b0_ := oT h6; have b1_ := oT h7; have p0_ := hO.1.1; have p1_ := hO.1.2; have p2_ := hg; have ll_ := nwL_lenE hl_; omega) ?_
    refine qL (t := 58) (p := .pointer (some (ad8_.add (Int.toNat i * 1)))) (v := .slice (rg.l.getD i.toNat zPC).a (rg.l.getD i.toNat zPC).l.length (rg.l.getD i.toNat zPC).c) [wRep ((m08New c).1) rx1_, gRep g rg] (fun w_ hR_ => by exact row1' te_ok (sz := 1) (d := zPC) rfl (by rw [← had8_]; exact ((gget hR_ 1 rfl).m (ne_of (by have b0_ := oT h6; have b1_ := oT h7; have p0_ := hO.1.1; have p1_ := hO.1.2; have p2_ := hg; have ll_ := nwL_lenE hl_; omega)))) pcE_len (o := 0) (by decide) (by have b0_ := oT h6; have b1_ := oT h7; have p0_ := hO.1.1; have p1_ := hO.1.2; have p2_ := hg; have ll_ := nwL_lenE hl_; omega) (.slice (rg.l.getD i.toNat zPC).a (rg.l.getD i.toNat zPC).l.length (rg.l.getD i.toNat zPC).c) (by kernel_rfl) (Nat.add_zero _).symm) ?_
    refine rZ 8 ?_
    refine qA (t := 38) (e := 87) (size := 143) (by_ := 1160) (i := 4) (n := l.length) (c := c0) (x := .sl 6 1 1) (enc := thE) (sp := sp0) true l [(TH.mk (TR.mk (rg.l.getD i.toNat zPC).l 0 (pNx i c.f0) 0 zCallR (ScR.mk ⟨0, 0, 0, 0⟩ 0 0 0 0 false 0 false 0) 0) (TX.mk (rg.l.getD i.toNat zPC).a (rg.l.getD i.toNat zPC).c (SX.mk none 0 [] (PS.mk none 0 []))))] (l ++ [(TH.mk (TR.mk (rg.l.getD i.toNat zPC).l 0 (pNx i c.f0) 0 zCallR (ScR.mk ⟨0, 0, 0, 0⟩ 0 0 0 0 false 0 false 0) 0) (TX.mk (rg.l.getD i.toNat zPC).a (rg.l.getD i.toNat zPC).c (SX.mk none 0 [] (PS.mk none 0 []))))]) thE_len thE_one rfl hall0_ hle0_ hmx0_ (by simp only [List.length_cons, List.length_nil]; have b0_ := oT h6; have b1_ := oT h7; have p0_ := hO.1.1; have p1_ := hO.1.2; have p2_ := hg; have ll_ := nwL_lenE hl_; omega) rfl (fun γ_ W_ hk_ hB_ => news_own hB_ (b := ⟨true, 87, [.v (.slice (rg.l.getD i.toNat zPC).a (rg.l.getD i.toNat zPC).l.length (rg.l.getD i.toNat zPC).c), .v (.int .i64 0), .v (.int .i64 (pNx i c.f0)), .v (.int .i64 0), .v (.int .i64 0), .v (.int .i64 0), .v (.int .i64 0), .v (.int .i64 0), .v (.bool false), .v (.int .i64 0), .v (.int .i64 0), .v (.int .i64 0), .v (.int .i64 0), .v (.int .i64 0), .v (.int .i64 0), .v (.int .i64 0), .v (.int .i64 0), .v (.int .i64 0), .v (.bool false), .v (.int .u64 0), .v (.int .i64 0), .v (.int .i64 0), .v (.int .i64 0), .v (.int .i64 0), .v (.int .u64 0), .v (.int .i64 0), .v (.int .i64 0), .v (.bool false), .v (.bool false), .v (.bool false), .v (.bool false), .v (.int .i64 0), .v (.bool false), .v (.int .i64 0), .v (.int .u64 0), .v (.int .u64 0), .v (.int .i64 0), .v (.int .i64 0), .v (.int .i64 0), .v (.int .i64 0), .v (.int .u64 0), .v (.int .i64 0), .v (.int .i64 0), .v (.bool false), .v (.bool false), .v (.bool false), .v (.bool false), .v (.int .i64 0), .v (.int .i64 0), .v (.int .u64 0), .v (.int .u64 0), .v (.int .i64 0), .v (.int .i64 0), .v (.int .i64 0), .v (.int .i64 0), .v (.int .u64 0), .v (.int .i64 0), .v (.int .i64 0), .v (.bool false), .v (.bool false), .v (.bool false), .v (.int .i64 0), .v (.bool false), .v (.int .i64 0), .v (.bool false), .v (.int .u64 0), .v (.slice none 0 0), .v (.bool false), .v (.int .i64 0), .v (.int .i64 0), .v (.int .i64 0), .v (.int .i64 0), .v (.int .i64 0), .v (.int .i64 0), .v (.bool false), .v (.int .u64 0), .v (.int .i64 0), .v (.int .i64 0), .v (.int .i64 0), .v (.int .i64 0), .v (.int .u64 0), .v (.int .i64 0), .v (.int .i64 0), .v (.bool false), .v (.bool false), .v (.bool false), .v (.bool false), .v (.int .i64 0), .v (.bool false), .v (.int .i64 0), .v (.int .u64 0), .v (.int .u64 0), .v (.int .i64 0), .v (.int .i64 0), .v (.int .i64 0), .v (.int .i64 0), .v (.int .u64 0), .v (.int .i64 0), .v (.int .i64 0), .v (.bool false), .v (.bool false), .v (.bool false), .v (.bool false), .v (.int .i64 0), .v (.int .i64 0), .v (.int .u64 0), .v (.int .u64 0), .v (.int .i64 0), .v (.int .i64 0), .v (.int .i64 0), .v (.int .i64 0), .v (.int .u64 0), .v (.int .i64 0), .v (.int .i64 0), .v (.bool false), .v (.bool false), .v (.bool false), .v (.int .i64 0), .v (.bool false), .v (.int .i64 0), .v (.bool false), .v (.int .u64 0), .v (.slice none 0 0), .v (.bool false), .v (.int .i64 0), .v (.bool false), .v (.int .u64 0), .v (.slice none 0 0), .v (.int .i64 0), .v (.int .u64 0), .v (.int .u64 0), .v (.int .i64 0), .v (.int .i64 0), .v (.int .i64 0), .v (.int .i64 0), .v (.int .u64 0), .v (.slice none 0 0), .v (.bool false), .v (.int .i64 0), .v (.bool false), .v (.int .u64 0), .v (.slice none 0 0), .v (.int .i64 0)]⟩) (by kernel_rfl) rfl) (fun c9_ sp9_ hall9_ hle9_ hmx9_ => ?_)
    refine rZ 9 ?_
    refine rG [1, 2, 4, 5, 8, 9] (fun tv_ => ?_)
    refine qN [0, 1, 2, 3, 7] (k20_New.l1.c c g rg rx1_ ⟨false, (IntKind.i64.wrap (i + 1)), (l ++ [(TH.mk (TR.mk (rg.l.getD i.toNat zPC).l 0 (pNx i c.f0) 0 zCallR (ScR.mk ⟨0, 0, 0, 0⟩ 0 0 0 0 false 0 false 0) 0) (TX.mk (rg.l.getD i.toNat zPC).a (rg.l.getD i.toNat zPC).c (SX.mk none 0 [] (PS.mk none 0 []))))]), c9_, sp9_, tv_⟩) (by kernel_rfl) rfl (by kernel_rfl) (by kernel_rfl) (by kernel_rfl) (by kernel_rfl) ⟨⟨_, (by kernel_rfl), ren_v _, ok_v _⟩, ⟨_, (by kernel_rfl), ren_v _, ok_v _⟩, ⟨_, (by kernel_rfl), ren_v _, ok_v _⟩, ⟨_, (by kernel_rfl), rfl, okb_all (by kernel_rfl)⟩, ⟨_, (by kernel_rfl), ren_v _, ok_v _⟩, trivial⟩ ?_
    exact qQ (Sf := k20_New.l1.c c g rg rx1_) (Rf := k20_New.l1.r c g rg rx1_) (I := k20_New.l1.i c g rg rx1_) (μ := (fun x_ => (c.f0 - x_.2.1).toNat)) ⟨false, (IntKind.i64.wrap (i + 1)), (l ++ [(TH.mk (TR.mk (rg.l.getD i.toNat zPC).l 0 (pNx i c.f0) 0 zCallR (ScR.mk ⟨0, 0, 0, 0⟩ 0 0 0 0 false 0 false 0) 0) (TX.mk (rg.l.getD i.toNat zPC).a (rg.l.getD i.toNat zPC).c (SX.mk none 0 [] (PS.mk none 0 []))))]), c9_, sp9_, tv_⟩ (by kernel_rfl) ⟨⟨(wi_ (i := i) (c := c.f0) (by omega) (oT h6) hO.1.2).1, (wi_ (i := i) (c := c.f0) (by omega) (oT h6) hO.1.2).2.1, nw_t (l := l) (wi0_ (by omega) (oT h6) hO.1.2) hl_ (nw_1 (c := c) (x := rg) (i := i) (p := rg.l.getD i.toNat zPC) (by omega) rfl), hall9_, hle9_, hmx9_⟩, (wi_ (i := i) (c := c.f0) (by omega) (oT h6) hO.1.2).2.2⟩ rfl (by simp [k20_New.l1.r])
   ·refine rZ 6 ?_
    refine qA (t := 38) (e := 87) (size := 143) (by_ := 1160) (i := 4) (n := l.length) (c := c0) (x := .sl 6 1 1) (enc := thE) (sp := sp0) true l [(TH.mk (TR.mk [] 0 (pNx i c.f0) 0 zCallR (ScR.mk ⟨0, 0, 0, 0⟩ 0 0 0 0 false 0 false 0) 0) (TX.mk none 0 (SX.mk none 0 [] (PS.mk none 0 []))))] (l ++ [(TH.mk (TR.mk [] 0 (pNx i c.f0) 0 zCallR (ScR.mk ⟨0, 0, 0, 0⟩ 0 0 0 0 false 0 false 0) 0) (TX.mk none 0 (SX.mk none 0 [] (PS.mk none 0 []))))]) thE_len thE_one rfl hall0_ hle0_ hmx0_ (by simp only [List.length_cons, List.length_nil]; have b0_ := oT h6; have b1_ := oF h7; have p0_ := hO.1.1; have p1_ := hO.1.2; have p2_ := hg; have ll_ := nwL_lenE hl_; omega) rfl (fun γ_ W_ hk_ hB_ => news_own hB_ (b := ⟨true, 87, [.v (.slice none 0 0), .v (.int .i64 0), .v (.int .i64 (pNx i c.f0)), .v (.int .i64 0), .v (.int .i64 0), .v (.int .i64 0), .v (.int .i64 0), .v (.int .i64 0), .v (.bool false), .v (.int .i64 0), .v (.int .i64 0), .v (.int .i64 0), .v (.int .i64 0), .v (.int .i64 0), .v (.int .i64 0), .v (.int .i64 0), .v (.int .i64 0), .v (.int .i64 0), .v (.bool false), .v (.int .u64 0), .v (.int .i64 0), .v (.int .i64 0), .v (.int .i64 0), .v (.int .i64 0), .v (.int .u64 0), .v (.int .i64 0), .v (.int .i64 0), .v (.bool false), .v (.bool false), .v (.bool false), .v (.bool false), .v (.int .i64 0), .v (.bool false), .v (.int .i64 0), .v (.int .u64 0), .v (.int .u64 0), .v (.int .i64 0), .v (.int .i64 0), .v (.int .i64 0), .v (.int .i64 0), .v (.int .u64 0), .v (.int .i64 0), .v (.int .i64 0), .v (.bool false), .v (.bool false), .v (.bool false), .v (.bool false), .v (.int .i64 0), .v (.int .i64 0), .v (.int .u64 0), .v (.int .u64 0), .v (.int .i64 0), .v (.int .i64 0), .v (.int .i64 0), .v (.int .i64 0), .v (.int .u64 0), .v (.int .i64 0), .v (.int .i64 0), .v (.bool false), .v (.bool false), .v (.bool false), .v (.int .i64 0), .v (.bool false), .v (.int .i64 0), .v (.bool false), .v (.int .u64 0), .v (.slice none 0 0), .v (.bool false), .v (.int .i64 0), .v (.int .i64 0), .v (.int .i64 0), .v (.int .i64 0), .v (.int .i64 0), .v (.int .i64 0), .v (.bool false), .v (.int .u64 0), .v (.int .i64 0), .v (.int .i64 0), .v (.int .i64 0), .v (.int .i64 0), .v (.int .u64 0), .v (.int .i64 0), .v (.int .i64 0), .v (.bool false), .v (.bool false), .v (.bool false), .v (.bool false), .v (.int .i64 0), .v (.bool false), .v (.int .i64 0), .v (.int .u64 0), .v (.int .u64 0), .v (.int .i64 0), .v (.int .i64 0), .v (.int .i64 0), .v (.int .i64 0), .v (.int .u64 0), .v (.int .i64 0), .v (.int .i64 0), .v (.bool false), .v (.bool false), .v (.bool false), .v (.bool false), .v (.int .i64 0), .v (.int .i64 0), .v (.int .u64 0), .v (.int .u64 0), .v (.int .i64 0), .v (.int .i64 0), .v (.int .i64 0), .v (.int .i64 0), .v (.int .u64 0), .v (.int .i64 0), .v (.int .i64 0), .v (.bool false), .v (.bool false), .v (.bool false), .v (.int .i64 0), .v (.bool false), .v (.int .i64 0), .v (.bool false), .v (.int .u64 0), .v (.slice none 0 0), .v (.bool false), .v (.int .i64 0), .v (.bool false), .v (.int .u64 0), .v (.slice none 0 0), .v (.int .i64 0), .v (.int .u64 0), .v (.int .u64 0), .v (.int .i64 0), .v (.int .i64 0), .v (.int .i64 0), .v (.int .i64 0), .v (.int .u64 0), .v (.slice none 0 0), .v (.bool false), .v (.int .i64 0), .v (.bool false), .v (.int .u64 0), .v (.slice none 0 0), .v (.int .i64 0)]⟩) (by kernel_rfl) rfl) (fun c10_ sp10_ hall10_ hle10_ hmx10_ => ?_)
    refine rZ 9 ?_
    refine rG [1, 2, 4, 5, 8, 9] (fun tv_ => ?_)
    refine qN [0, 1, 2, 3, 7] (k20_New.l1.c c g rg rx1_ ⟨false, (IntKind.i64.wrap (i + 1)), (l ++ [(TH.mk (TR.mk [] 0 (pNx i c.f0) 0 zCallR (ScR.mk ⟨0, 0, 0, 0⟩ 0 0 0 0 false 0 false 0) 0) (TX.mk none 0 (SX.mk none 0 [] (PS.mk none 0 []))))]), c10_, sp10_, tv_⟩) (by kernel_rfl) rfl (by kernel_rfl) (by kernel_rfl) (by kernel_rfl) (by kernel_rfl) ⟨⟨_, (by kernel_rfl), ren_v _, ok_v _⟩, ⟨_, (by kernel_rfl), ren_v _, ok_v _⟩, ⟨_, (by kernel_rfl), ren_v _, ok_v _⟩, ⟨_, (by kernel_rfl), rfl, okb_all (by kernel_rfl)⟩, ⟨_, (by kernel_rfl), ren_v _, ok_v _⟩, trivial⟩ ?_
    exact qQ (Sf := k20_New.l1.c c g rg rx1_) (Rf := k20_New.l1.r c g rg rx1_) (I := k20_New.l1.i c g rg rx1_) (μ := (fun x_ => (c.f0 - x_.2.1).toNat)) ⟨false, (IntKind.i64.wrap (i + 1)), (l ++ [(TH.mk (TR.mk [] 0 (pNx i c.f0) 0 zCallR (ScR.mk ⟨0, 0, 0, 0⟩ 0 0 0 0 false 0 false 0) 0) (TX.mk none 0 (SX.mk none 0 [] (PS.mk none 0 []))))]), c10_, sp10_, tv_⟩ (by kernel_rfl) ⟨⟨(wi_ (i := i) (c := c.f0) (by omega) (oT h6) hO.1.2).1, (wi_ (i := i) (c := c.f0) (by omega) (oT h6) hO.1.2).2.1, nw_t (l := l) (wi0_ (by omega) (oT h6) hO.1.2) hl_ (nw_1 (c := c) (x := rg) (i := i) (p := zPC) (by omega) (nw_no (oF h7))), hall10_, hle10_, hmx10_⟩, (wi_ (i := i) (c := c.f0) (by omega) (oT h6) hO.1.2).2.2⟩ rfl (by simp [k20_New.l1.r])
  ·refine rZ 3 ?_
   refine qG 4 [3] 87 (List.flatMap thE l ++ sp0) (fun g11_ => ?_)
   refine rZ 4 ?_
   have hi_ : i = c.f0 := by have := oF h6; omega
   have hm_ : m20New c g = ((AD.mk ((m08New c).1) (nwM c g i.toNat) [] 0), 0) := by unfold m20New; rw [hi_]
   refine qR [.agg (encD (AD.mk ((m08New c).1) (nwM c g i.toNat) [] 0) (DX.mk rx1_ (some ⟨g11_, 0, none⟩) c0 l none 0 [])).toArray, .int .i64 0] (fun W1_ hT_ hR_ hF_ => ?_)
   rw [hm_]
   exact ⟨(DX.mk rx1_ (some ⟨g11_, 0, none⟩) c0 l none 0 []), rfl, ⟨(wget hR_ 1 rfl), (row_blk (hR_.get 0 rfl)), hle0_, (by rw [hl_, nwL_len]; have := hO.1.2; omega), (by rw [hl_]; exact nwL_deep (gget hR_ 2 rfl) c _), row_nil, (Nat.le_refl _), (Nat.zero_le _), (fun y_ hy_ => by cases hy_), (by rw [hl_]; exact nwL_map (gget hR_ 2 rfl) c _), rfl⟩, (fun k_ => (fun h_ => h_.elim (fun h_ => hF_ _ (mG 1 rfl) k_ h_) (fun h_ => h_.elim (fun h_ => hF_ _ (mG 0 rfl) k_ (rowBl_blk h_)) (fun h_ => h_.elim (fun h_ => hF_ _ (mG 2 rfl) k_ (nwL_bl (hl_ ▸ h_))) (fun h_ => h_.elim rowBl_none (fun h_ => by obtain ⟨y_, hy_, _⟩ := h_; cases hy_)))))), (by rw [hl_, hi_, nwL_len]), (by rw [hl_]; exact nwL_mx c rg _ 0), hT_.below⟩
 ·obtain ⟨rfl, rfl⟩ := hI_
  refine rZ 8 ?_
  refine qI (decide (0 < c.f0)) (fun hx_ => ?_) (fun hx_ => by rw [(decide_eq_true (by have := hO.1.1; omega) : decide (0 < c.f0) = true)] at hx_; cases hx_)
  clear hx_
  refine rZ 8 ?_
  refine qV [.int .i64 0, .int .i64 c.f0] (fun W_ hT_ hR_ => c15_Next 0 c.f0 _) ?_
  refine rZ 12 ?_
  refine qI (decide (0 < (rg.l.length : Int))) (fun h13 => ?_) (fun h13 => ?_)
  ·refine rZ 3 ?_
   refine rK (p := ∃ ad, rg.A = some ad) (fun W_ hR_ => row_some ((gget hR_ 1 rfl).m (ne_of (by have b0_ := oT h13; have p0_ := hO.1.1; have p1_ := hO.1.2; have p2_ := hg; omega))) (by rw [flat_len pcE_len]; exact Nat.mul_pos (by have b0_ := oT h13; have p0_ := hO.1.1; have p1_ := hO.1.2; have p2_ := hg; omega) (by decide))) ?_
   rintro ⟨ad14_, had14_⟩
   refine qX (t := 24) (e := 58) (s := 1) (b := 24) (A := rg.A) (n := rg.l.length) (c := rg.C) (k := .i64) (i := 0) ad14_ had14_ (by have b0_ := oT h13; have p0_ := hO.1.1; have p1_ := hO.1.2; have p2_ := hg; omega) (by have b0_ := oT h13; have p0_ := hO.1.1; have p1_ := hO.1.2; have p2_ := hg; omega) ?_
   refine qL (t := 58) (p := .pointer (some (ad14_.add (Int.toNat 0 * 1)))) (v := .slice (rg.l.getD (Int.toNat 0) zPC).a (rg.l.getD (Int.toNat 0) zPC).l.length (rg.l.getD (Int.toNat 0) zPC).c) [wRep ((m08New c).1) rx1_, gRep g rg] (fun w_ hR_ => by exact row1' te_ok (sz := 1) (d := zPC) rfl (by rw [← had14_]; exact ((gget hR_ 1 rfl).m (ne_of (by have b0_ := oT h13; have p0_ := hO.1.1; have p1_ := hO.1.2; have p2_ := hg; omega)))) pcE_len (o := 0) (by decide) (by have b0_ := oT h13; have p0_ := hO.1.1; have p1_ := hO.1.2; have p2_ := hg; omega) (.slice (rg.l.getD (Int.toNat 0) zPC).a (rg.l.getD (Int.toNat 0) zPC).l.length (rg.l.getD (Int.toNat 0) zPC).c) (by kernel_rfl) (Nat.add_zero _).symm) ?_
   refine rZ 8 ?_
   refine qB (t := 38) (e := 87) (size := 143) (by_ := 1160) (x := .sl 5 1 1) (enc := thE) true [(TH.mk (TR.mk (rg.l.getD (Int.toNat 0) zPC).l 0 (pNx 0 c.f0) 0 zCallR (ScR.mk ⟨0, 0, 0, 0⟩ 0 0 0 0 false 0 false 0) 0) (TX.mk (rg.l.getD (Int.toNat 0) zPC).a (rg.l.getD (Int.toNat 0) zPC).c (SX.mk none 0 [] (PS.mk none 0 []))))] thE_len thE_one (Nat.le_of_ble_eq_true rfl) (Nat.le_of_ble_eq_true rfl) (fun γ_ W_ hk_ hB_ => news_own hB_ (b := ⟨true, 87, [.v (.slice (rg.l.getD (Int.toNat 0) zPC).a (rg.l.getD (Int.toNat 0) zPC).l.length (rg.l.getD (Int.toNat 0) zPC).c), .v (.int .i64 0), .v (.int .i64 (pNx 0 c.f0)), .v (.int .i64 0), .v (.int .i64 0), .v (.int .i64 0), .v (.int .i64 0), .v (.int .i64 0), .v (.bool false), .v (.int .i64 0), .v (.int .i64 0), .v (.int .i64 0), .v (.int .i64 0), .v (.int .i64 0), .v (.int .i64 0), .v (.int .i64 0), .v (.int .i64 0), .v (.int .i64 0), .v (.bool false), .v (.int .u64 0), .v (.int .i64 0), .v (.int .i64 0), .v (.int .i64 0), .v (.int .i64 0), .v (.int .u64 0), .v (.int .i64 0), .v (.int .i64 0), .v (.bool false), .v (.bool false), .v (.bool false), .v (.bool false), .v (.int .i64 0), .v (.bool false), .v (.int .i64 0), .v (.int .u64 0), .v (.int .u64 0), .v (.int .i64 0), .v (.int .i64 0), .v (.int .i64 0), .v (.int .i64 0), .v (.int .u64 0), .v (.int .i64 0), .v (.int .i64 0), .v (.bool false), .v (.bool false), .v (.bool false), .v (.bool false), .v (.int .i64 0), .v (.int .i64 0), .v (.int .u64 0), .v (.int .u64 0), .v (.int .i64 0), .v (.int .i64 0), .v (.int .i64 0), .v (.int .i64 0), .v (.int .u64 0), .v (.int .i64 0), .v (.int .i64 0), .v (.bool false), .v (.bool false), .v (.bool false), .v (.int .i64 0), .v (.bool false), .v (.int .i64 0), .v (.bool false), .v (.int .u64 0), .v (.slice none 0 0), .v (.bool false), .v (.int .i64 0), .v (.int .i64 0), .v (.int .i64 0), .v (.int .i64 0), .v (.int .i64 0), .v (.int .i64 0), .v (.bool false), .v (.int .u64 0), .v (.int .i64 0), .v (.int .i64 0), .v (.int .i64 0), .v (.int .i64 0), .v (.int .u64 0), .v (.int .i64 0), .v (.int .i64 0), .v (.bool false), .v (.bool false), .v (.bool false), .v (.bool false), .v (.int .i64 0), .v (.bool false), .v (.int .i64 0), .v (.int .u64 0), .v (.int .u64 0), .v (.int .i64 0), .v (.int .i64 0), .v (.int .i64 0), .v (.int .i64 0), .v (.int .u64 0), .v (.int .i64 0), .v (.int .i64 0), .v (.bool false), .v (.bool false), .v (.bool false), .v (.bool false), .v (.int .i64 0), .v (.int .i64 0), .v (.int .u64 0), .v (.int .u64 0), .v (.int .i64 0), .v (.int .i64 0), .v (.int .i64 0), .v (.int .i64 0), .v (.int .u64 0), .v (.int .i64 0), .v (.int .i64 0), .v (.bool false), .v (.bool false), .v (.bool false), .v (.int .i64 0), .v (.bool false), .v (.int .i64 0), .v (.bool false), .v (.int .u64 0), .v (.slice none 0 0), .v (.bool false), .v (.int .i64 0), .v (.bool false), .v (.int .u64 0), .v (.slice none 0 0), .v (.int .i64 0), .v (.int .u64 0), .v (.int .u64 0), .v (.int .i64 0), .v (.int .i64 0), .v (.int .i64 0), .v (.int .i64 0), .v (.int .u64 0), .v (.slice none 0 0), .v (.bool false), .v (.int .i64 0), .v (.bool false), .v (.int .u64 0), .v (.slice none 0 0), .v (.int .i64 0)]⟩) (by kernel_rfl) (by kernel_rfl)) (fun c15_ sp15_ hall15_ hle15_ hmx15_ => ?_)
   refine rZ 9 ?_
   refine rG [1, 2, 4, 5, 8, 9] (fun tv_ => ?_)
   refine qN [0, 1, 2, 3, 6] (k20_New.l1.c c g rg rx1_ ⟨false, (IntKind.i64.wrap (0 + 1)), [(TH.mk (TR.mk (rg.l.getD (Int.toNat 0) zPC).l 0 (pNx 0 c.f0) 0 zCallR (ScR.mk ⟨0, 0, 0, 0⟩ 0 0 0 0 false 0 false 0) 0) (TX.mk (rg.l.getD (Int.toNat 0) zPC).a (rg.l.getD (Int.toNat 0) zPC).c (SX.mk none 0 [] (PS.mk none 0 []))))], c15_, sp15_, tv_⟩) (by kernel_rfl) rfl (by kernel_rfl) (by kernel_rfl) (by kernel_rfl) (by kernel_rfl) ⟨⟨_, (by kernel_rfl), ren_v _, ok_v _⟩, ⟨_, (by kernel_rfl), ren_v _, ok_v _⟩, ⟨_, (by kernel_rfl), ren_v _, ok_v _⟩, ⟨_, (by kernel_rfl), rfl, okb_all (by kernel_rfl)⟩, ⟨_, (by kernel_rfl), ren_v _, ok_v _⟩, trivial⟩ ?_
   exact qQ (Sf := k20_New.l1.c c g rg rx1_) (Rf := k20_New.l1.r c g rg rx1_) (I := k20_New.l1.i c g rg rx1_) (μ := (fun x_ => (c.f0 - x_.2.1).toNat)) ⟨false, (IntKind.i64.wrap (0 + 1)), [(TH.mk (TR.mk (rg.l.getD (Int.toNat 0) zPC).l 0 (pNx 0 c.f0) 0 zCallR (ScR.mk ⟨0, 0, 0, 0⟩ 0 0 0 0 false 0 false 0) 0) (TX.mk (rg.l.getD (Int.toNat 0) zPC).a (rg.l.getD (Int.toNat 0) zPC).c (SX.mk none 0 [] (PS.mk none 0 []))))], c15_, sp15_, tv_⟩ (by kernel_rfl) ⟨⟨(wi_ (i := 0) (c := c.f0) (by decide) (oT (decide_eq_true (by have := hO.1.1; omega) : decide (0 < c.f0) = true)) hO.1.2).1, (wi_ (i := 0) (c := c.f0) (by decide) (oT (decide_eq_true (by have := hO.1.1; omega) : decide (0 < c.f0) = true)) hO.1.2).2.1, nw_t (l := ([] : List TH)) (wi0_ (by decide) (oT (decide_eq_true (by have := hO.1.1; omega) : decide (0 < c.f0) = true)) hO.1.2) rfl (nw_1 (c := c) (x := rg) (i := 0) (p := rg.l.getD (Int.toNat 0) zPC) (by omega) rfl), hall15_, hle15_, hmx15_⟩, (wi_ (i := 0) (c := c.f0) (by decide) (oT (decide_eq_true (by have := hO.1.1; omega) : decide (0 < c.f0) = true)) hO.1.2).2.2⟩ rfl (by simp [k20_New.l1.r])
  ·refine rZ 6 ?_
   refine qB (t := 38) (e := 87) (size := 143) (by_ := 1160) (x := .sl 5 1 1) (enc := thE) true [(TH.mk (TR.mk [] 0 (pNx 0 c.f0) 0 zCallR (ScR.mk ⟨0, 0, 0, 0⟩ 0 0 0 0 false 0 false 0) 0) (TX.mk none 0 (SX.mk none 0 [] (PS.mk none 0 []))))] thE_len thE_one (Nat.le_of_ble_eq_true rfl) (Nat.le_of_ble_eq_true rfl) (fun γ_ W_ hk_ hB_ => news_own hB_ (b := ⟨true, 87, [.v (.slice none 0 0), .v (.int .i64 0), .v (.int .i64 (pNx 0 c.f0)), .v (.int .i64 0), .v (.int .i64 0), .v (.int .i64 0), .v (.int .i64 0), .v (.int .i64 0), .v (.bool false), .v (.int .i64 0), .v (.int .i64 0), .v (.int .i64 0), .v (.int .i64 0), .v (.int .i64 0), .v (.int .i64 0), .v (.int .i64 0), .v (.int .i64 0), .v (.int .i64 0), .v (.bool false), .v (.int .u64 0), .v (.int .i64 0), .v (.int .i64 0), .v (.int .i64 0), .v (.int .i64 0), .v (.int .u64 0), .v (.int .i64 0), .v (.int .i64 0), .v (.bool false), .v (.bool false), .v (.bool false), .v (.bool false), .v (.int .i64 0), .v (.bool false), .v (.int .i64 0), .v (.int .u64 0), .v (.int .u64 0), .v (.int .i64 0), .v (.int .i64 0), .v (.int .i64 0), .v (.int .i64 0), .v (.int .u64 0), .v (.int .i64 0), .v (.int .i64 0), .v (.bool false), .v (.bool false), .v (.bool false), .v (.bool false), .v (.int .i64 0), .v (.int .i64 0), .v (.int .u64 0), .v (.int .u64 0), .v (.int .i64 0), .v (.int .i64 0), .v (.int .i64 0), .v (.int .i64 0), .v (.int .u64 0), .v (.int .i64 0), .v (.int .i64 0), .v (.bool false), .v (.bool false), .v (.bool false), .v (.int .i64 0), .v (.bool false), .v (.int .i64 0), .v (.bool false), .v (.int .u64 0), .v (.slice none 0 0), .v (.bool false), .v (.int .i64 0), .v (.int .i64 0), .v (.int .i64 0), .v (.int .i64 0), .v (.int .i64 0), .v (.int .i64 0), .v (.bool false), .v (.int .u64 0), .v (.int .i64 0), .v (.int .i64 0), .v (.int .i64 0), .v (.int .i64 0), .v (.int .u64 0), .v (.int .i64 0), .v (.int .i64 0), .v (.bool false), .v (.bool false), .v (.bool false), .v (.bool false), .v (.int .i64 0), .v (.bool false), .v (.int .i64 0), .v (.int .u64 0), .v (.int .u64 0), .v (.int .i64 0), .v (.int .i64 0), .v (.int .i64 0), .v (.int .i64 0), .v (.int .u64 0), .v (.int .i64 0), .v (.int .i64 0), .v (.bool false), .v (.bool false), .v (.bool false), .v (.bool false), .v (.int .i64 0), .v (.int .i64 0), .v (.int .u64 0), .v (.int .u64 0), .v (.int .i64 0), .v (.int .i64 0), .v (.int .i64 0), .v (.int .i64 0), .v (.int .u64 0), .v (.int .i64 0), .v (.int .i64 0), .v (.bool false), .v (.bool false), .v (.bool false), .v (.int .i64 0), .v (.bool false), .v (.int .i64 0), .v (.bool false), .v (.int .u64 0), .v (.slice none 0 0), .v (.bool false), .v (.int .i64 0), .v (.bool false), .v (.int .u64 0), .v (.slice none 0 0), .v (.int .i64 0), .v (.int .u64 0), .v (.int .u64 0), .v (.int .i64 0), .v (.int .i64 0), .v (.int .i64 0), .v (.int .i64 0), .v (.int .u64 0), .v (.slice none 0 0), .v (.bool false), .v (.int .i64 0), .v (.bool false), .v (.int .u64 0), .v (.slice none 0 0), .v (.int .i64 0)]⟩) (by kernel_rfl) (by kernel_rfl)) (fun c16_ sp16_ hall16_ hle16_ hmx16_ => ?_)
   refine rZ 9 ?_
   refine rG [1, 2, 4, 5, 8, 9] (fun tv_ => ?_)
   refine qN [0, 1, 2, 3, 6] (k20_New.l1.c c g rg rx1_ ⟨false, (IntKind.i64.wrap (0 + 1)), [(TH.mk (TR.mk [] 0 (pNx 0 c.f0) 0 zCallR (ScR.mk ⟨0, 0, 0, 0⟩ 0 0 0 0 false 0 false 0) 0) (TX.mk none 0 (SX.mk none 0 [] (PS.mk none 0 []))))], c16_, sp16_, tv_⟩) (by kernel_rfl) rfl (by kernel_rfl) (by kernel_rfl) (by kernel_rfl) (by kernel_rfl) ⟨⟨_, (by kernel_rfl), ren_v _, ok_v _⟩, ⟨_, (by kernel_rfl), ren_v _, ok_v _⟩, ⟨_, (by kernel_rfl), ren_v _, ok_v _⟩, ⟨_, (by kernel_rfl), rfl, okb_all (by kernel_rfl)⟩, ⟨_, (by kernel_rfl), ren_v _, ok_v _⟩, trivial⟩ ?_
   exact qQ (Sf := k20_New.l1.c c g rg rx1_) (Rf := k20_New.l1.r c g rg rx1_) (I := k20_New.l1.i c g rg rx1_) (μ := (fun x_ => (c.f0 - x_.2.1).toNat)) ⟨false, (IntKind.i64.wrap (0 + 1)), [(TH.mk (TR.mk [] 0 (pNx 0 c.f0) 0 zCallR (ScR.mk ⟨0, 0, 0, 0⟩ 0 0 0 0 false 0 false 0) 0) (TX.mk none 0 (SX.mk none 0 [] (PS.mk none 0 []))))], c16_, sp16_, tv_⟩ (by kernel_rfl) ⟨⟨(wi_ (i := 0) (c := c.f0) (by decide) (oT (decide_eq_true (by have := hO.1.1; omega) : decide (0 < c.f0) = true)) hO.1.2).1, (wi_ (i := 0) (c := c.f0) (by decide) (oT (decide_eq_true (by have := hO.1.1; omega) : decide (0 < c.f0) = true)) hO.1.2).2.1, nw_t (l := ([] : List TH)) (wi0_ (by decide) (oT (decide_eq_true (by have := hO.1.1; omega) : decide (0 < c.f0) = true)) hO.1.2) rfl (nw_1 (c := c) (x := rg) (i := 0) (p := zPC) (by omega) (nw_no (oF h13))), hall16_, hle16_, hmx16_⟩, (wi_ (i := 0) (c := c.f0) (by decide) (oT (decide_eq_true (by have := hO.1.1; omega) : decide (0 < c.f0) = true)) hO.1.2).2.2⟩ rfl (by simp [k20_New.l1.r])
end Go.Proofs.Ytbhakljebcmocaa.PBoundKeeps
end
section
namespace Go.Proofs.Ytbhakljebcmocaa.PBoundKeeps
open Go.RowKit Go.Proofs.YtbhakljebcmocaaW.PrintWords Go.Proofs.YtbhakljebcmocaaW.PrintLast Go.Proofs.YtbhakljebcmocaaW.PrintMore
set_option linter.unusedVariables false
set_option maxHeartbeats 1000000
set_option maxRecDepth 100000
set_option linter.unusedSimpArgs false
def k20_Run.T7 : Bool × List (List Nat × List Nat) := (true, [([], []), ([], []), ([], []), ([1, 2], [1, 2]), ([3], [3]), ([0, 4], [0, 4]), ([5], [5]), ([6], [6]), ([6], [6]), ([], []), ([9, 7, 5, 0, 1, 2, 3, 4, 5, 6, 7, 9], [7, 9]), ([8, 10, 0, 1, 2, 3, 4, 5, 6, 7, 8, 9, 10], [8])])
def k20_Run.l1.c (c : S23) (g : (List (List S48))) (rg : GX) (p : (List Int)) (rp : IX) (rx1_ : DX) (x_ : Int × AD × DX × (Nat → Value)) : St := match x_ with | ⟨i, d1, r1, tv_⟩ => ⟨[some ⟨true, 23, (encC c).map .v⟩, some ⟨true, 41, (encD (AD.mk (RW.mk ⟨0, 0, 0, 0, 0⟩ [] 0 (RB.mk ⟨0, 0, 0, 0, 0⟩ [] [] [] [] [])) [] [] 0) (DX.mk (RX.mk none 0 (RA.mk none none none none none 0 0 0 0 0)) none 0 [] none 0 [])).map .v⟩, some ⟨true, 41, (encD d1 r1).map .v⟩], tvl tv_ 40 [(2, .v (.slice rp.A p.length rp.C)), (3, .ad 0 0), (6, .ad 1 0), (7, .v (.int .i64 0)), (8, .ad 2 0), (10, .v (.int .i64 i))]⟩
def k20_Run.l1.r (c : S23) (g : (List (List S48))) (rg : GX) (p : (List Int)) (rp : IX) (rx1_ : DX) (x_ : Int × AD × DX × (Nat → Value)) : List PRep := match x_ with | ⟨i, d1, r1, tv_⟩ => [dRep d1 r1, gRep g rg, kRep p rp]
def k20_Run.l1.i (c : S23) (g : (List (List S48))) (rg : GX) (p : (List Int)) (rp : IX) (rx1_ : DX) (x_ : Int × AD × DX × (Nat → Value)) : Prop := match x_ with | ⟨i, d1, r1, tv_⟩ => 0 ≤ i ∧ i ≤ (p.length : Int) ∧ d1 = m20Pk (m20New c g).1 (p.take i.toNat) ∧ r1.l.length = Int.toNat c.f0 ∧ MXle r1.l i.toNat ∧ DM d1 r1
theorem k20_Run (c : S23) (g : (List (List S48))) (rg : GX) (p : (List Int)) (rp : IX) (hO : OkC c) (hg : (rg.l.length : Int) ≤ c.f0) (hq : ∀ q, q ∈ g → q.length ≤ 4) (hpl : p.length ≤ 240) (W : World) (hW : GAt W g rg) (hW2 : KAt W p rp) : Calls Try.prog 7 #[.agg (encC c).toArray, .slice rg.A rg.l.length rg.C, .slice rp.A p.length rp.C] W (fun e W' => ∃ r0 : DX, e = .returned (.tuple #[.agg (encD ((m20Run c g p).1) r0).toArray, .int .i64 (m20Run c g p).2]) ∧ DAt W' (m20Run c g p).1 r0 ∧ FreshIn [gRep g rg, kRep p rp] W (dRep (m20Run c g p).1 r0) ∧ Below W.heap.size W W') := by
 refine rf_enter (args := [.agg (encC c).toArray, .slice rg.A rg.l.length rg.C, .slice rp.A p.length rp.C]) [gRep g rg, kRep p rp] Try.func7 rfl (two_mem hW hW2) ?_
 refine rX 10 ?_
 refine qC [.agg (encC c).toArray, .slice rg.A rg.l.length rg.C] fun W_ hT_ hR_ => (k20_New c g rg hO hg _ (gget hR_ 0 rfl)).mono ?_
 rintro e_ W1_ ⟨rx1_, rfl, hw1_, hf1_, he2_, he3_, hb_⟩
 refine ⟨_, [dRep ((m20New c g).1) rx1_], rfl, hb_, (NewOk.cons hw1_ (hf1_.one (fun k_ => (fun h_ => ⟨_, mG 0 rfl, h_⟩))) NewOk.nil), ?_⟩
 refine rZ 13 ?_
 refine qI ((m20New c g).2 != 0) (fun hx_ => by rw [(show ((m20New c g).2 != 0) = false from rfl)] at hx_; cases hx_) (fun hx_ => ?_)
 clear hx_
 refine rZ 7 ?_
 refine rG [2, 3, 6, 7, 8, 10] (fun tv5_ => ?_)
 refine qU (k20_Run.l1.c c g rg p rp rx1_) (k20_Run.l1.r c g rg p rp rx1_) (k20_Run.l1.i c g rg p rp rx1_) (fun x_ => ((p.length : Int) - x_.1).toNat) (by kernel_rfl) ⟨0, ((m20New c g).1), rx1_, tv5_⟩ ⟨by decide, Int.natCast_nonneg _, rfl, he2_, he3_, hw1_.dm⟩ (by kernel_rfl) (by simp [k20_Run.l1.r]) ?_
 rintro ⟨i, d1, r1, tv6_⟩ ⟨hi1_, hi2_, rfl, hl1_, hM1_, hdm1_⟩
 obtain ⟨hPI_, hel_⟩ := PI.pk (p.take i.toNat) (PI.new hO hq)
 rw [List.length_take] at hel_
 have hez_ : (m20New c g).1.es.length = 0 := rfl
 refine rZ 8 ?_
 refine qI (decide (i < (p.length : Int))) (fun h7 => ?_) (fun h7 => ?_)
 ·refine rZ 4 ?_
  refine qD k20_Run.T7 [0, 0, 0, 6, 14, 31, 63, 127, 127, 0, 767, 2047] [10] [2] [] ?_
  refine rO [0, 1, 2, 3, 4] ?_
  refine rZ 3 ?_
  refine rK (p := ∃ ad, rp.A = some ad) (fun W_ hR_ => row_some ((kget hR_ 2 rfl).m (ne_of (by have b0_ := oT h7; have p0_ := hpl; have p1_ := hi1_; have p2_ := hi2_; omega))) (by rw [flat_len iE_len]; exact Nat.mul_pos (by have b0_ := oT h7; have p0_ := hpl; have p1_ := hi1_; have p2_ := hi2_; omega) (by decide))) ?_
  rintro ⟨ad8_, had8_⟩
  refine qX (t := 25) (e := 3) (s := 1) (b := 8) (A := rp.A) (n := p.length) (c := rp.C) (k := .i64) (i := i) ad8_ had8_ (by have b0_ := oT h7; have p0_ := hpl; have p1_ := hi1_; have p2_ := hi2_; omega) (by have b0_ := oT h7; have p0_ := hpl; have p1_ := hi1_; have p2_ := hi2_; omega) ?_
  refine qL (t := 3) (p := .pointer (some (ad8_.add (Int.toNat i * 1)))) (v := .int .i64 (p.getD i.toNat 0)) [dRep (m20Pk (m20New c g).1 (p.take i.toNat)) r1, gRep g rg, kRep p rp] (fun w_ hR_ => by exact row1' te_ok (sz := 1) (d := 0) rfl (by rw [← had8_]; exact ((kget hR_ 2 rfl).m (ne_of (by have b0_ := oT h7; have p0_ := hpl; have p1_ := hi1_; have p2_ := hi2_; omega)))) iE_len (o := 0) (by decide) (by have b0_ := oT h7; have p0_ := hpl; have p1_ := hi1_; have p2_ := hi2_; omega) (.int .i64 (p.getD i.toNat 0)) (by kernel_rfl) (Nat.add_zero _).symm) ?_
  refine qF 5 9 ?_ ?_
  ·refine rO [6, 7, 8, 9, 10, 11] ?_
   refine qC [.agg (encD (m20Pk (m20New c g).1 (p.take i.toNat)) r1).toArray, .int .i64 (p.getD i.toNat 0)] fun W_ hT_ hR_ => (k20_Pick (m20Pk (m20New c g).1 (p.take i.toNat)) r1 (p.getD i.toNat 0) i.toNat (by omega) (by rw [hdm1_.tt]; exact ⟨(hPI_.t _).n0, (hPI_.t _).n1⟩) ⟨hPI_.c0, hPI_.c1⟩ (by rw [hdm1_.ell]; omega) hM1_ (hPI_.hv _) _ (dget hR_ 0 rfl)).mono ?_
   rintro e_ W1_ ⟨rx9_, rfl, hw9_, hf9_, he10_, he11_, hb_⟩
   refine ⟨_, [dRep ((m20Pick (m20Pk (m20New c g).1 (p.take i.toNat)) (p.getD i.toNat 0)).1) rx9_], rfl, hb_, (NewOk.cons hw9_ (hf9_.one (fun k_ => (fun h_ => ⟨_, mG 0 rfl, h_⟩))) NewOk.nil), ?_⟩
   refine rZ 19 ?_
   refine rG [2, 3, 6, 7, 8, 10] (fun tv_ => ?_)
   refine qN [0, 1, 2] (k20_Run.l1.c c g rg p rp rx1_ ⟨(IntKind.i64.wrap (i + 1)), ((m20Pick (m20Pk (m20New c g).1 (p.take i.toNat)) (p.getD i.toNat 0)).1), rx9_, tv_⟩) (by kernel_rfl) rfl (by kernel_rfl) (by kernel_rfl) (by kernel_rfl) (by kernel_rfl) ⟨⟨_, (by kernel_rfl), ren_v _, ok_v _⟩, ⟨_, (by kernel_rfl), ren_v _, ok_v _⟩, ⟨_, (by kernel_rfl), ren_v _, ok_v _⟩, trivial⟩ ?_
   exact qQ (Sf := k20_Run.l1.c c g rg p rp rx1_) (Rf := k20_Run.l1.r c g rg p rp rx1_) (I := k20_Run.l1.i c g rg p rp rx1_) (μ := (fun x_ => ((p.length : Int) - x_.1).toNat)) ⟨(IntKind.i64.wrap (i + 1)), ((m20Pick (m20Pk (m20New c g).1 (p.take i.toNat)) (p.getD i.toNat 0)).1), rx9_, tv_⟩ (by kernel_rfl) ⟨⟨(wj_ hi1_ (oT h7) hpl).1, (wj_ hi1_ (oT h7) hpl).2.1, rn_ hi1_ (oT h7) hpl, he10_.trans hl1_, rm_ hi1_ (oT h7) hpl he11_, hw9_.dm⟩, (wj_ hi1_ (oT h7) hpl).2.2⟩ rfl (by simp [k20_Run.l1.r])
  ·refine rO [5, 6, 7, 8, 10, 11] ?_
   refine rZ 2 ?_
   refine qC [.agg (encD (m20Pk (m20New c g).1 (p.take i.toNat)) r1).toArray, .int .i64 (p.getD i.toNat 0)] fun W_ hT_ hR_ => (k20_Pick (m20Pk (m20New c g).1 (p.take i.toNat)) r1 (p.getD i.toNat 0) i.toNat (by omega) (by rw [hdm1_.tt]; exact ⟨(hPI_.t _).n0, (hPI_.t _).n1⟩) ⟨hPI_.c0, hPI_.c1⟩ (by rw [hdm1_.ell]; omega) hM1_ (hPI_.hv _) _ (dget hR_ 0 rfl)).mono ?_
   rintro e_ W1_ ⟨rx12_, rfl, hw12_, hf12_, he13_, he14_, hb_⟩
   refine ⟨_, [dRep ((m20Pick (m20Pk (m20New c g).1 (p.take i.toNat)) (p.getD i.toNat 0)).1) rx12_], rfl, hb_, (NewOk.cons hw12_ (hf12_.one (fun k_ => (fun h_ => ⟨_, mG 0 rfl, h_⟩))) NewOk.nil), ?_⟩
   refine rZ 17 ?_
   refine rG [2, 3, 6, 7, 8, 10] (fun tv_ => ?_)
   refine qN [0, 1, 2] (k20_Run.l1.c c g rg p rp rx1_ ⟨(IntKind.i64.wrap (i + 1)), ((m20Pick (m20Pk (m20New c g).1 (p.take i.toNat)) (p.getD i.toNat 0)).1), rx12_, tv_⟩) (by kernel_rfl) rfl (by kernel_rfl) (by kernel_rfl) (by kernel_rfl) (by kernel_rfl) ⟨⟨_, (by kernel_rfl), ren_v _, ok_v _⟩, ⟨_, (by kernel_rfl), ren_v _, ok_v _⟩, ⟨_, (by kernel_rfl), ren_v _, ok_v _⟩, trivial⟩ ?_
   exact qQ (Sf := k20_Run.l1.c c g rg p rp rx1_) (Rf := k20_Run.l1.r c g rg p rp rx1_) (I := k20_Run.l1.i c g rg p rp rx1_) (μ := (fun x_ => ((p.length : Int) - x_.1).toNat)) ⟨(IntKind.i64.wrap (i + 1)), ((m20Pick (m20Pk (m20New c g).1 (p.take i.toNat)) (p.getD i.toNat 0)).1), rx12_, tv_⟩ (by kernel_rfl) ⟨⟨(wj_ hi1_ (oT h7) hpl).1, (wj_ hi1_ (oT h7) hpl).2.1, rn_ hi1_ (oT h7) hpl, he13_.trans hl1_, rm_ hi1_ (oT h7) hpl he14_, hw12_.dm⟩, (wj_ hi1_ (oT h7) hpl).2.2⟩ rfl (by simp [k20_Run.l1.r])
 ·refine rZ 7 ?_
  have hi_ : p.take i.toNat = p := List.take_of_length_le (by have := oF h7; omega)
  have hm_ : m20Run c g p = ((m20Pk (m20New c g).1 (p.take i.toNat)), 0) := by unfold m20Run; rw [hi_]
  refine qR [.agg (encD (m20Pk (m20New c g).1 (p.take i.toNat)) r1).toArray, .int .i64 0] (fun W1_ hT_ hR_ hF_ => ?_)
  rw [hm_]
  exact ⟨r1, rfl, (dget hR_ 0 rfl), (fun k_ => (fun h_ => hF_ _ (mG 0 rfl) k_ h_)), hT_.below⟩
end Go.Proofs.Ytbhakljebcmocaa.PBoundKeeps
end
section
namespace Go.Proofs.Ytbhakljebcmocaa.PBoundKeeps
open Go.RowKit Go.Proofs.YtbhakljebcmocaaW.PrintWords Go.Proofs.YtbhakljebcmocaaW.PrintLast Go.Proofs.YtbhakljebcmocaaW.PrintMore
set_option linter.unusedVariables false
set_option maxHeartbeats 1000000
set_option maxRecDepth 100000
set_option linter.unusedSimpArgs false
theorem k20_NewX (c : S23) (g : (List (List S48))) (rg : GX) (hO : OkC c) (hg : c.f0 < (rg.l.length : Int)) (W : World) (hW : GAt W g rg) : Calls Try.prog 13 #[.agg (encC c).toArray, .slice rg.A rg.l.length rg.C] W (fun e W' => e = .returned (.tuple #[.agg zDocL.toArray, .int .i64 (m20NewX c g).2]) ∧ Below W.heap.size W W') := by
 refine rf_enter (args := [.agg (encC c).toArray, .slice rg.A rg.l.length rg.C]) [gRep g rg] Try.func13 rfl (by intro r hr; obtain rfl := List.mem_singleton.mp hr; exact hW) ?_
 refine rX 9 ?_
 refine qC [.agg (encC c).toArray] fun W_ hT_ hR_ => (k08_New c hO _).mono ?_
 rintro e_ W1_ ⟨rx1_, rfl, hw1_, hf1_, hb_⟩
 refine ⟨_, [wRep ((m08New c).1) rx1_], rfl, hb_, (NewOk.cons hw1_ (fresh_nil hf1_) NewOk.nil), ?_⟩
 refine rZ 13 ?_
 refine qI ((m08New c).2 != 0) (fun hx_ => by rw [(show ((m08New c).2 != 0) = false from rfl)] at hx_; cases hx_) (fun hx_ => ?_)
 clear hx_
 refine rZ 10 ?_
 refine qI (decide ((rg.l.length : Int) > c.f0)) (fun hx_ => ?_) (fun hx_ => by rw [(decide_eq_true (by omega) : decide ((rg.l.length : Int) > c.f0) = true)] at hx_; cases hx_)
 clear hx_
 refine rZ 6 ?_
 have hm_ : m20NewX c g = ((), 1) := rfl
 refine qR [.agg (encD (AD.mk (RW.mk ⟨0, 0, 0, 0, 0⟩ [] 0 (RB.mk ⟨0, 0, 0, 0, 0⟩ [] [] [] [] [])) [] [] 0) (DX.mk (RX.mk none 0 (RA.mk none none none none none 0 0 0 0 0)) none 0 [] none 0 [])).toArray, .int .i64 1] (fun W1_ hT_ hR_ hF_ => ?_)
 rw [hm_]
 exact ⟨rfl, hT_.below⟩
theorem k20_RunX (c : S23) (g : (List (List S48))) (rg : GX) (p : (List Int)) (rp : IX) (hO : OkC c) (hg : c.f0 < (rg.l.length : Int)) (W : World) (hW : GAt W g rg) (hW2 : KAt W p rp) : Calls Try.prog 7 #[.agg (encC c).toArray, .slice rg.A rg.l.length rg.C, .slice rp.A p.length rp.C] W (fun e W' => e = .returned (.tuple #[.agg zDocL.toArray, .int .i64 (m20RunX c g p).2]) ∧ Below W.heap.size W W') := by
 refine rf_enter (args := [.agg (encC c).toArray, .slice rg.A rg.l.length rg.C, .slice rp.A p.length rp.C]) [gRep g rg, kRep p rp] Try.func7 rfl (two_mem hW hW2) ?_
 refine rX 10 ?_
 refine qV [.agg (encC c).toArray, .slice rg.A rg.l.length rg.C] (fun W_ hT_ hR_ => k20_NewX c g rg hO hg _ (gget hR_ 0 rfl)) ?_
 refine rZ 13 ?_
 refine qI ((m20NewX c g).2 != 0) (fun hx_ => ?_) (fun hx_ => by rw [(show ((m20NewX c g).2 != 0) = true from rfl)] at hx_; cases hx_)
 clear hx_
 refine rZ 7 ?_
 have hm_ : m20RunX c g p = ((), 1) := rfl
 refine qR [.agg (encD (AD.mk (RW.mk ⟨0, 0, 0, 0, 0⟩ [] 0 (RB.mk ⟨0, 0, 0, 0, 0⟩ [] [] [] [] [])) [] [] 0) (DX.mk (RX.mk none 0 (RA.mk none none none none none 0 0 0 0 0)) none 0 [] none 0 [])).toArray, .int .i64 ((m20NewX c g).2)] (fun W1_ hT_ hR_ hF_ => ?_)
 rw [hm_]
 exact ⟨rfl, hT_.below⟩
end Go.Proofs.Ytbhakljebcmocaa.PBoundKeeps
end
section
namespace Go.Proofs.Ytbhakljebcmocaa.PBoundKeeps
open Go.RowKit Go.Proofs.YtbhakljebcmocaaW.PrintWords Go.Proofs.YtbhakljebcmocaaW.PrintLast Go.Proofs.YtbhakljebcmocaaW.PrintMore
set_option linter.unusedVariables false
set_option maxHeartbeats 1000000
set_option maxRecDepth 100000
set_option linter.unusedSimpArgs false
theorem kLawT (c : S23) (g : (List (List S48))) (rg : GX) (p : (List Int)) (rp : IX) (hC : fewC c = true) (hG : fewG g p = true) (hg : (rg.l.length : Int) ≤ c.f0) (hK : ∀ l : List EV, l.map EV.e = (m20Run c g p).1.es → ∃ k, bound_Ok.f k c.f0 c.f1 c.f2 c.f3 c.f4 (l.map ev54) = some true) (W : World) (hW : GAt W g rg) (hW2 : KAt W p rp) : Calls Try.prog 3 #[.agg (encC c).toArray, .slice rg.A rg.l.length rg.C, .slice rp.A p.length rp.C] W (fun e W' => e = .returned (.bool (lawT c g p)) ∧ Below W.heap.size W W') := by
 refine rf_enter (args := [.agg (encC c).toArray, .slice rg.A rg.l.length rg.C, .slice rp.A p.length rp.C]) [gRep g rg, kRep p rp] Try.func3 rfl (two_mem hW hW2) ?_
 refine rX 7 ?_
 refine qV [] (fun W_ hT_ hR_ => c23_awake _) ?_
 refine rZ 6 ?_
 refine qV [.agg (encC c).toArray] (fun W_ hT_ hR_ => c04_Few c _) ?_
 refine rZ 2 ?_
 refine qS 14 (!(fewC c)) (fun hx_ => by rw [(by rw [hC]; rfl : (!(fewC c)) = false)] at hx_; cases hx_) (fun hx_ => ?_)
 clear hx_
 refine rZ 2 ?_
 refine qV [.slice rg.A rg.l.length rg.C, .slice rp.A p.length rp.C] (fun W_ hT_ hR_ => c20_FewG g rg p rp _ (gget hR_ 0 rfl) (kget hR_ 1 rfl)) ?_
 refine rZ 3 ?_
 refine qI (!(fewG g p)) (fun hx_ => by rw [(by rw [hG]; rfl : (!(fewG g p)) = false)] at hx_; cases hx_) (fun hx_ => ?_)
 clear hx_
 refine rZ 6 ?_
 refine qC [.agg (encC c).toArray, .slice rg.A rg.l.length rg.C, .slice rp.A p.length rp.C] fun W_ hT_ hR_ => (k20_Run c g rg p rp (of_decide_eq_true hC).1 hg (fewG_ok hG).2.2 (fewG_ok hG).2.1 _ (gget hR_ 0 rfl) (kget hR_ 1 rfl)).mono ?_
 rintro e_ W1_ ⟨rx3_, rfl, hw3_, hf3_, hb_⟩
 refine ⟨_, [dRep ((m20Run c g p).1) rx3_], rfl, hb_, (NewOk.cons hw3_ (hf3_.two (fun k_ => (fun h_ => ⟨_, mG 0 rfl, h_⟩)) (fun k_ => (fun h_ => ⟨_, mG 1 rfl, h_⟩))) NewOk.nil), ?_⟩
 refine rZ 14 ?_
 refine qV [.agg (encC c).toArray, .slice rx3_.eA rx3_.es.length rx3_.eC] (fun W_ hT_ hR_ => c23_Ok c (hK rx3_.es hw3_.em) _ (dget hR_ 0 rfl)) ?_
 refine rZ 3 ?_
 have hm_ : lawT c g p = true := rfl
 refine qR [.bool true] (fun W1_ hT_ hR_ hF_ => ?_)
 rw [hm_]
 exact ⟨rfl, hT_.below⟩
theorem kLawX (c : S23) (g : (List (List S48))) (rg : GX) (p : (List Int)) (rp : IX) (hC : fewC c = true) (hG : fewG g p = true) (hg : c.f0 < (rg.l.length : Int)) (W : World) (hW : GAt W g rg) (hW2 : KAt W p rp) : Calls Try.prog 3 #[.agg (encC c).toArray, .slice rg.A rg.l.length rg.C, .slice rp.A p.length rp.C] W (fun e W' => e = .returned (.bool (lawT c g p)) ∧ Below W.heap.size W W') := by
 refine rf_enter (args := [.agg (encC c).toArray, .slice rg.A rg.l.length rg.C, .slice rp.A p.length rp.C]) [gRep g rg, kRep p rp] Try.func3 rfl (two_mem hW hW2) ?_
 refine rX 7 ?_
 refine qV [] (fun W_ hT_ hR_ => c23_awake _) ?_
 refine rZ 6 ?_
 refine qV [.agg (encC c).toArray] (fun W_ hT_ hR_ => c04_Few c _) ?_
 refine rZ 2 ?_
 refine qS 14 (!(fewC c)) (fun hx_ => by rw [(by rw [hC]; rfl : (!(fewC c)) = false)] at hx_; cases hx_) (fun hx_ => ?_)
 clear hx_
 refine rZ 2 ?_
 refine qV [.slice rg.A rg.l.length rg.C, .slice rp.A p.length rp.C] (fun W_ hT_ hR_ => c20_FewG g rg p rp _ (gget hR_ 0 rfl) (kget hR_ 1 rfl)) ?_
 refine rZ 3 ?_
 refine qI (!(fewG g p)) (fun hx_ => by rw [(by rw [hG]; rfl : (!(fewG g p)) = false)] at hx_; cases hx_) (fun hx_ => ?_)
 clear hx_
 refine rZ 6 ?_
 refine qV [.agg (encC c).toArray, .slice rg.A rg.l.length rg.C, .slice rp.A p.length rp.C] (fun W_ hT_ hR_ => k20_RunX c g rg p rp (of_decide_eq_true hC).1 hg _ (gget hR_ 0 rfl) (kget hR_ 1 rfl)) ?_
 refine rZ 14 ?_
 refine qV [.agg (encC c).toArray, .slice none 0 0] (fun W_ hT_ hR_ => c23_OkZ c _) ?_
 refine rZ 3 ?_
 have hm_ : lawT c g p = true := rfl
 refine qR [.bool true] (fun W1_ hT_ hR_ hF_ => ?_)
 rw [hm_]
 exact ⟨rfl, hT_.below⟩
theorem kLawF1 (c : S23) (A_g : Option Addr) (c_g : Nat) (g : List (List S48)) (A_p : Option Addr) (c_p : Nat) (p : List Int) (W : World) (hr1 : Kd.C (Kd.slice 48 k48) W A_g g.length g) (hc1 : g.length ≤ c_g) (hr2 : Kd.C (Kd.int .i64) W A_p p.length p) (hc2 : p.length ≤ c_p) (hC : fewC c = false) : Calls Try.prog 3 #[.agg (encC c).toArray, .slice A_g g.length c_g, .slice A_p p.length c_p] W (fun e W' => e = .returned (.bool (lawT c g p)) ∧ Below W.heap.size W W') := by
 refine rf_enter (args := [.agg (encC c).toArray, .slice A_g g.length c_g, .slice A_p p.length c_p]) [] Try.func3 rfl (by simp) ?_
 refine rX 7 ?_
 refine qV [] (fun W_ hT_ hR_ => c23_awake _) ?_
 refine rZ 6 ?_
 refine qV [.agg (encC c).toArray] (fun W_ hT_ hR_ => c04_Few c _) ?_
 refine rZ 2 ?_
 refine qS 14 (!(fewC c)) (fun hx_ => ?_) (fun hx_ => by rw [hC] at hx_; exact absurd hx_ (by decide))
 clear hx_
 refine rZ 12 ?_
 have hm_ : lawT c g p = true := rfl
 refine qR [.bool true] (fun W1_ hT_ hR_ hF_ => ?_)
 rw [hm_]
 exact ⟨rfl, hT_.below⟩
theorem kLawF2 (c : S23) (A_g : Option Addr) (c_g : Nat) (g : List (List S48)) (A_p : Option Addr) (c_p : Nat) (p : List Int) (W : World) (hr1 : Kd.C (Kd.slice 48 k48) W A_g g.length g) (hc1 : g.length ≤ c_g) (hr2 : Kd.C (Kd.int .i64) W A_p p.length p) (hc2 : p.length ≤ c_p) (hC : fewC c = true) (hG : fewG g p = false) : Calls Try.prog 3 #[.agg (encC c).toArray, .slice A_g g.length c_g, .slice A_p p.length c_p] W (fun e W' => e = .returned (.bool (lawT c g p)) ∧ Below W.heap.size W W') := by
 refine rf_enter (args := [.agg (encC c).toArray, .slice A_g g.length c_g, .slice A_p p.length c_p]) [] Try.func3 rfl (by simp) ?_
 refine rX 7 ?_
 refine qV [] (fun W_ hT_ hR_ => c23_awake _) ?_
 refine rZ 6 ?_
 refine qV [.agg (encC c).toArray] (fun W_ hT_ hR_ => c04_Few c _) ?_
 refine rZ 2 ?_
 refine qS 14 (!(fewC c)) (fun hx_ => by rw [hC] at hx_; exact absurd hx_ (by decide)) (fun hx_ => ?_)
 clear hx_
 refine rZ 2 ?_
 refine qV [.slice A_g g.length c_g, .slice A_p p.length c_p] (fun W_ hT_ hR_ => c20_FewK g p _ (Kd.C_below hr1 hT_.below) hc1 (Kd.C_below hr2 hT_.below) hc2) ?_
 refine rZ 3 ?_
 refine qI (!(fewG g p)) (fun hx_ => ?_) (fun hx_ => by rw [(by rw [hG]; rfl : (!(fewG g p)) = true)] at hx_; cases hx_)
 clear hx_
 refine rZ 5 ?_
 have hm_ : lawT c g p = true := rfl
 refine qR [.bool true] (fun W1_ hT_ hR_ hF_ => ?_)
 rw [hm_]
 exact ⟨rfl, hT_.below⟩
end Go.Proofs.Ytbhakljebcmocaa.PBoundKeeps
end
