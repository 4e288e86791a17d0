-- Written by a program of this session: a variant of the print that takes proofs by hand (wip/tools/mkprint.py)
import Derived.Test.YtpcmoclohepdiagPWorldHeadsx0
import Derived.Test.YtpcmoclohepdiagPWorldHeadsx3
import Derived.Test.YtpcmoclohepdiagPWorldHeadsx4
import Derived.Test.YtpcmoclohepdiagPWorldHeadsx5
import Derived.Test.YtpcmoclohepdiagPWorldHeadsx7
namespace Go.Proofs.Ytpcmoclohepdiag.PWorldHeads
open Go.RowKit Go.Proofs.YtpcmoclohepdiagW.PrintWords Go.Proofs.YtpcmoclohepdiagW.PrintLast Go.Proofs.YtpcmoclohepdiagW.PrintMore
attribute [local go_sem] max2_int min2_int max_two min_two max_three min_three max_four min_four   -- for this text's walks alone
set_option linter.unusedVariables false
set_option linter.unusedSimpArgs false

/-! ### corrielaw08_WorldHeads: function 5 (by hand) -/
theorem u64_mod (n : Int) : IntKind.u64.wrap n = n % 18446744073709551616 := by
  simp only [IntKind.wrap, IntKind.bits, IntKind.signed]; simp
theorem bucket_eq (k : Nat) (a b : Int) : route_Bucket.f (k + 8) a b = if isPow b = true then route_top (IntKind.u64.wrap (a * 11400714819323198485)) b else some 0 := by
  unfold route_Bucket.f
  rw [may_eq]
  rfl
theorem top_0 (u : Int) (h0 : 0 ≤ u) (h1 : u ≤ 18446744073709551615) : route_top u 1 = some (u / 18446744073709551616) := by
  have h : route_top u 1 = some (wrap64 (u / 18446744073709551616)) := by simp [route_top]
  rw [h, wrap64_eq (by omega) (by omega)]
theorem top_1 (u : Int) (h0 : 0 ≤ u) (h1 : u ≤ 18446744073709551615) : route_top u 2 = some (u / 9223372036854775808) := by
  have h : route_top u 2 = some (wrap64 (u / 9223372036854775808)) := by simp [route_top]
  rw [h, wrap64_eq (by omega) (by omega)]
theorem top_2 (u : Int) (h0 : 0 ≤ u) (h1 : u ≤ 18446744073709551615) : route_top u 4 = some (u / 4611686018427387904) := by
  have h : route_top u 4 = some (wrap64 (u / 4611686018427387904)) := by simp [route_top]
  rw [h, wrap64_eq (by omega) (by omega)]
theorem top_3 (u : Int) (h0 : 0 ≤ u) (h1 : u ≤ 18446744073709551615) : route_top u 8 = some (u / 2305843009213693952) := by
  have h : route_top u 8 = some (wrap64 (u / 2305843009213693952)) := by simp [route_top]
  rw [h, wrap64_eq (by omega) (by omega)]
theorem top_4 (u : Int) (h0 : 0 ≤ u) (h1 : u ≤ 18446744073709551615) : route_top u 16 = some (u / 1152921504606846976) := by
  have h : route_top u 16 = some (wrap64 (u / 1152921504606846976)) := by simp [route_top]
  rw [h, wrap64_eq (by omega) (by omega)]
theorem top_5 (u : Int) (h0 : 0 ≤ u) (h1 : u ≤ 18446744073709551615) : route_top u 32 = some (u / 576460752303423488) := by
  have h : route_top u 32 = some (wrap64 (u / 576460752303423488)) := by simp [route_top]
  rw [h, wrap64_eq (by omega) (by omega)]
theorem top_6 (u : Int) (h0 : 0 ≤ u) (h1 : u ≤ 18446744073709551615) : route_top u 64 = some (u / 288230376151711744) := by
  have h : route_top u 64 = some (wrap64 (u / 288230376151711744)) := by simp [route_top]
  rw [h, wrap64_eq (by omega) (by omega)]
theorem ref_0 (k : Nat) (h c : Int) (h0 : 0 ≤ h) (h1 : h ≤ 18446744073709551615) : corrieref03_Bucket.l0 (k + 1) h c 1 = some (c * 1 + h / 18446744073709551616) := by
  simp only [corrieref03_Bucket.l0]
  rw [if_neg (by decide)]
  congr 1
  omega
theorem ref_1 (k : Nat) (h c : Int) (h0 : 0 ≤ h) (h1 : h ≤ 18446744073709551615) (c0 : 0 ≤ c) (c1 : c ≤ 1048576) : corrieref03_Bucket.l0 (k + 2) h c 2 = some (c * 2 + h / 9223372036854775808) := by
  show corrieref03_Bucket.l0 (k + 1 + 1) h c 2 = _
  unfold corrieref03_Bucket.l0
  rw [if_pos (by decide), show wrap64 (Int.tdiv 2 2) = 1 by unfold wrap64; decide, wrap64_eq (n := 2 * c) (by omega) (by omega)]
  have e : IntKind.u64.wrap (2 * h) = 2 * h % 18446744073709551616 := u64_mod _
  by_cases b : h ≥ 9223372036854775808
  · rw [if_pos b, wrap64_eq (by omega) (by omega), e, ref_0 k _ _ (by omega) (by omega)]
    congr 1
    omega
  · rw [if_neg b, e, ref_0 k _ _ (by omega) (by omega)]
    congr 1
    omega
theorem ref_2 (k : Nat) (h c : Int) (h0 : 0 ≤ h) (h1 : h ≤ 18446744073709551615) (c0 : 0 ≤ c) (c1 : c ≤ 262144) : corrieref03_Bucket.l0 (k + 3) h c 4 = some (c * 4 + h / 4611686018427387904) := by
  show corrieref03_Bucket.l0 (k + 2 + 1) h c 4 = _
  unfold corrieref03_Bucket.l0
  rw [if_pos (by decide), show wrap64 (Int.tdiv 4 2) = 2 by unfold wrap64; decide, wrap64_eq (n := 2 * c) (by omega) (by omega)]
  have e : IntKind.u64.wrap (2 * h) = 2 * h % 18446744073709551616 := u64_mod _
  by_cases b : h ≥ 9223372036854775808
  · rw [if_pos b, wrap64_eq (by omega) (by omega), e, ref_1 k _ _ (by omega) (by omega) (by omega) (by omega)]
    congr 1
    omega
  · rw [if_neg b, e, ref_1 k _ _ (by omega) (by omega) (by omega) (by omega)]
    congr 1
    omega
theorem ref_3 (k : Nat) (h c : Int) (h0 : 0 ≤ h) (h1 : h ≤ 18446744073709551615) (c0 : 0 ≤ c) (c1 : c ≤ 65536) : corrieref03_Bucket.l0 (k + 4) h c 8 = some (c * 8 + h / 2305843009213693952) := by
  show corrieref03_Bucket.l0 (k + 3 + 1) h c 8 = _
  unfold corrieref03_Bucket.l0
  rw [if_pos (by decide), show wrap64 (Int.tdiv 8 2) = 4 by unfold wrap64; decide, wrap64_eq (n := 2 * c) (by omega) (by omega)]
  have e : IntKind.u64.wrap (2 * h) = 2 * h % 18446744073709551616 := u64_mod _
  by_cases b : h ≥ 9223372036854775808
  · rw [if_pos b, wrap64_eq (by omega) (by omega), e, ref_2 k _ _ (by omega) (by omega) (by omega) (by omega)]
    congr 1
    omega
  · rw [if_neg b, e, ref_2 k _ _ (by omega) (by omega) (by omega) (by omega)]
    congr 1
    omega
theorem ref_4 (k : Nat) (h c : Int) (h0 : 0 ≤ h) (h1 : h ≤ 18446744073709551615) (c0 : 0 ≤ c) (c1 : c ≤ 16384) : corrieref03_Bucket.l0 (k + 5) h c 16 = some (c * 16 + h / 1152921504606846976) := by
  show corrieref03_Bucket.l0 (k + 4 + 1) h c 16 = _
  unfold corrieref03_Bucket.l0
  rw [if_pos (by decide), show wrap64 (Int.tdiv 16 2) = 8 by unfold wrap64; decide, wrap64_eq (n := 2 * c) (by omega) (by omega)]
  have e : IntKind.u64.wrap (2 * h) = 2 * h % 18446744073709551616 := u64_mod _
  by_cases b : h ≥ 9223372036854775808
  · rw [if_pos b, wrap64_eq (by omega) (by omega), e, ref_3 k _ _ (by omega) (by omega) (by omega) (by omega)]
    congr 1
    omega
  · rw [if_neg b, e, ref_3 k _ _ (by omega) (by omega) (by omega) (by omega)]
    congr 1
    omega
theorem ref_5 (k : Nat) (h c : Int) (h0 : 0 ≤ h) (h1 : h ≤ 18446744073709551615) (c0 : 0 ≤ c) (c1 : c ≤ 4096) : corrieref03_Bucket.l0 (k + 6) h c 32 = some (c * 32 + h / 576460752303423488) := by
  show corrieref03_Bucket.l0 (k + 5 + 1) h c 32 = _
  unfold corrieref03_Bucket.l0
  rw [if_pos (by decide), show wrap64 (Int.tdiv 32 2) = 16 by unfold wrap64; decide, wrap64_eq (n := 2 * c) (by omega) (by omega)]
  have e : IntKind.u64.wrap (2 * h) = 2 * h % 18446744073709551616 := u64_mod _
  by_cases b : h ≥ 9223372036854775808
  · rw [if_pos b, wrap64_eq (by omega) (by omega), e, ref_4 k _ _ (by omega) (by omega) (by omega) (by omega)]
    congr 1
    omega
  · rw [if_neg b, e, ref_4 k _ _ (by omega) (by omega) (by omega) (by omega)]
    congr 1
    omega
theorem ref_6 (k : Nat) (h c : Int) (h0 : 0 ≤ h) (h1 : h ≤ 18446744073709551615) (c0 : 0 ≤ c) (c1 : c ≤ 1024) : corrieref03_Bucket.l0 (k + 7) h c 64 = some (c * 64 + h / 288230376151711744) := by
  show corrieref03_Bucket.l0 (k + 6 + 1) h c 64 = _
  unfold corrieref03_Bucket.l0
  rw [if_pos (by decide), show wrap64 (Int.tdiv 64 2) = 32 by unfold wrap64; decide, wrap64_eq (n := 2 * c) (by omega) (by omega)]
  have e : IntKind.u64.wrap (2 * h) = 2 * h % 18446744073709551616 := u64_mod _
  by_cases b : h ≥ 9223372036854775808
  · rw [if_pos b, wrap64_eq (by omega) (by omega), e, ref_5 k _ _ (by omega) (by omega) (by omega) (by omega)]
    congr 1
    omega
  · rw [if_neg b, e, ref_5 k _ _ (by omega) (by omega) (by omega) (by omega)]
    congr 1
    omega
theorem bucket_same (a b : Int) (hq : isPow b = true) : ∃ v, route_Bucket.f 20 a b = some v ∧ corrieref03_Bucket.f 20 a b = some v := by
  have hU0 : 0 ≤ IntKind.u64.wrap (a * 11400714819323198485) := by rw [u64_mod]; omega
  have hU1 : IntKind.u64.wrap (a * 11400714819323198485) ≤ 18446744073709551615 := by rw [u64_mod]; omega
  have hb : b = 1 ∨ b = 2 ∨ b = 4 ∨ b = 8 ∨ b = 16 ∨ b = 32 ∨ b = 64 := by simpa [isPow] using hq
  unfold corrieref03_Bucket.f
  rw [bucket_eq 12, rpow_eq, if_pos hq, hq]
  simp only [Option.bind_some, if_true]
  clear hq
  rcases hb with rfl | rfl | rfl | rfl | rfl | rfl | rfl
  · rw [top_0 _ hU0 hU1, ref_0 19 _ 0 hU0 hU1]; exact ⟨_, rfl, by simp⟩
  · rw [top_1 _ hU0 hU1, ref_1 18 _ 0 hU0 hU1 (by omega) (by omega)]; exact ⟨_, rfl, by simp⟩
  · rw [top_2 _ hU0 hU1, ref_2 17 _ 0 hU0 hU1 (by omega) (by omega)]; exact ⟨_, rfl, by simp⟩
  · rw [top_3 _ hU0 hU1, ref_3 16 _ 0 hU0 hU1 (by omega) (by omega)]; exact ⟨_, rfl, by simp⟩
  · rw [top_4 _ hU0 hU1, ref_4 15 _ 0 hU0 hU1 (by omega) (by omega)]; exact ⟨_, rfl, by simp⟩
  · rw [top_5 _ hU0 hU1, ref_5 14 _ 0 hU0 hU1 (by omega) (by omega)]; exact ⟨_, rfl, by simp⟩
  · rw [top_6 _ hU0 hU1, ref_6 13 _ 0 hU0 hU1 (by omega) (by omega)]; exact ⟨_, rfl, by simp⟩
def rhd_lb (n m : Nat) : Array Bool := ((List.range n).map (fun i => m.testBit i)).toArray
def rhd.T1 : Bool × List (List Nat × List Nat) := (true, [([], []), ([0], [0]), ([], []), ([], []), ([3], [3]), ([4], [4]), ([2, 5], [2, 5]), ([1, 6, 6], [1, 6]), ([7, 7, 0, 1, 2, 3, 4, 5, 6, 7], [7])])
def rhd.B1 : List Nat := [0, 1, 0, 0, 8, 24, 60, 127, 255]
theorem rhd.tab1 : rtab .any (opsOf Try.f23 1) = rhd.T1 := by kernel_rfl
theorem rhd.bits1 : waitsOk rhd.T1.2 rhd.B1 = true := by kernel_rfl
set_option maxHeartbeats 8000000 in
set_option maxRecDepth 100000 in
theorem d8_Head (c : S23) (m t : Nat) (st : Int) (q : R8) (key k hd : Int) (w : World) (hb : ∀ W : World, Calls Try.prog 54 #[.int .u64 key, .int .i64 c.f1] W (fun e w' => e = .returned (.int .i64 k) ∧ Below W.heap.size W w')) (hh : ∀ W : World, Calls Try.prog 53 #[.agg #[.int .i64 c.f0, .int .i64 c.f1, .int .i64 c.f2, .int .i64 c.f3, .int .i64 c.f4], .int .i64 k] W (fun e w' => e = .returned (.int .i64 hd) ∧ Below W.heap.size W w')) :
    Calls Try.prog 23 #[.agg #[.int .i64 c.f0, .int .i64 c.f1, .int .i64 c.f2, .int .i64 c.f3, .int .i64 c.f4, .slice q.A m q.C, .int .i64 st, .int .i64 c.f0, .int .i64 c.f1, .int .i64 c.f2, .int .i64 c.f3, .int .i64 c.f4, .slice q.a5 t q.c5, .slice q.a6 t q.c6, .slice q.a7 t q.c7, .slice q.a8 0 q.c8, .slice q.a9 0 q.c9], .int .u64 key] w fun e w' => e = .returned (.int .i64 hd) ∧ Below w.heap.size w w' := by
  have HB := Aside0.mk (Below.refl w.heap.size w)
  go_enter Try.func23, Try.ntmps23
  go_upto_region 1 with (first | ((with_reducible refine gate_dst (N := 2) rfl ?_); refine box_event ?hg (N := 2) ?hd (cs := #[.int .i64 c.f0, .int .i64 c.f1, .int .i64 c.f2, .int .i64 c.f3, .int .i64 c.f4, .slice q.A m q.C, .int .i64 st, .int .i64 c.f0, .int .i64 c.f1, .int .i64 c.f2, .int .i64 c.f3, .int .i64 c.f4, .slice q.a5 t q.c5, .slice q.a6 t q.c6, .slice q.a7 t q.c7, .slice q.a8 0 q.c8, .slice q.a9 0 q.c9]) (t := 60) ?hr ?_; (case hd => rfl); (case hg => rfl); (case hr => first | (go_simp; done) | (go_simp; rfl)); intro g2 hg w1 hbox hbk; have B2 := Aside0.mk hbox; have HGB2 := Aside0.mk (show w.heap.size ≤ g2 from by rw [hg]; exact HB.out.size); have n_HB := Aside0.mk (below_step HB.out hbk); clear HB; have HB := n_HB; clear n_HB; clear hbk hbox hg))
  have n_B2 := Aside0.mk (blk_drew B2.out)
  have n_HB := Aside0.mk (below_drew1 HB.out)
  clear B2 HB
  have B2 := n_B2
  have HB := n_HB
  clear n_B2 n_HB
  refine start_ (n := 9) (S := fun w' => w'.cell? ⟨g2, 0, none⟩ = some (.int .i64 c.f0) ∧ w'.cell? ⟨g2, 1, none⟩ = some (.int .i64 c.f1) ∧ w'.cell? ⟨g2, 2, none⟩ = some (.int .i64 c.f2) ∧ w'.cell? ⟨g2, 3, none⟩ = some (.int .i64 c.f3) ∧ w'.cell? ⟨g2, 4, none⟩ = some (.int .i64 c.f4)) (ds := []) #[false, false, false, false, false, false, false, false, false] (by kernel_rfl) rfl rfl ⟨((blk_cell B2.out 0).trans rfl), ((blk_cell B2.out 1).trans rfl), ((blk_cell B2.out 2).trans rfl), ((blk_cell B2.out 3).trans rfl), ((blk_cell B2.out 4).trans rfl)⟩ (fun hHeld => ?_); refine with_tabW rhd.tab1 rhd.bits1 (fun HT_ HW_ => ?_)
  generalize w1.drew = W1 at B2 HB hHeld ⊢
  refine pure_ (i := 0) (N := some 5) (v := ?_) (a' := ?_) (rhd_lb 9 1) rfl rfl (any_of HT_.out (by kernel_rfl)) (fun _ _ _ h => h) (Or.inl ⟨by rfl, ?_⟩) ?_ ?_; rotate_left
  · intro w'; go_simp; with_reducible rfl
  rotate_left
  · simp only [Act.put, List.setIfInBounds_toArray, List.set_cons_zero, List.set_cons_succ, i64_w, i32_w]; rfl
  refine pure_ (i := 2) (N := some 7) (v := ?_) (a' := ?_) (rhd_lb 9 5) rfl rfl (any_of HT_.out (by kernel_rfl)) (fun _ _ _ h => h) (Or.inl ⟨by rfl, ?_⟩) ?_ ?_; rotate_left
  · intro w'; go_simp; with_reducible rfl
  rotate_left
  · simp only [Act.put, List.setIfInBounds_toArray, List.set_cons_zero, List.set_cons_succ, i64_w, i32_w]; rfl
  refine pure_ (i := 3) (N := some 8) (v := ?_) (a' := ?_) (rhd_lb 9 13) rfl rfl (any_of HT_.out (by kernel_rfl)) (fun _ _ _ h => h) (Or.inl ⟨by rfl, ?_⟩) ?_ ?_; rotate_left
  · intro w'; go_simp; with_reducible rfl
  rotate_left
  · simp only [Act.put, List.setIfInBounds_toArray, List.set_cons_zero, List.set_cons_succ, i64_w, i32_w]; rfl
  refine pure_ (i := 4) (N := some 9) (v := ?_) (a' := ?_) (rhd_lb 9 29) rfl rfl (any_of HT_.out (by kernel_rfl)) (fun _ _ _ h => h) (Or.inl ⟨by rfl, ?_⟩) ?_ ?_; rotate_left
  · intro w'; go_simp; with_reducible rfl
  rotate_left
  · simp only [Act.put, List.setIfInBounds_toArray, List.set_cons_zero, List.set_cons_succ, i64_w, i32_w]; rfl
  refine take_ (i := 1) (N := some 6) (v := ?_) (a' := ?_) (rhd_lb 9 31) rfl rfl (take_ofW HT_.out HW_.out (by kernel_rfl)) (fun _ _ _ h => h) (Or.inl ⟨by rfl, ?_⟩) hHeld ?_ ?_; rotate_left
  · rintro w' ⟨s0, s1, s2, s3, s4⟩; go_simp; with_reducible rfl
  rotate_left
  · simp only [Act.put, List.setIfInBounds_toArray, List.set_cons_zero, List.set_cons_succ, i64_w, i32_w]; rfl
  refine take_ (i := 5) (N := some 10) (v := ?_) (a' := ?_) (rhd_lb 9 63) rfl rfl (take_ofW HT_.out HW_.out (by kernel_rfl)) (fun _ _ _ h => h) (Or.inl ⟨by rfl, ?_⟩) hHeld ?_ ?_; rotate_left
  · rintro w' ⟨s0, s1, s2, s3, s4⟩; go_simp; with_reducible rfl
  rotate_left
  · simp only [Act.put, List.setIfInBounds_toArray, List.set_cons_zero, List.set_cons_succ, i64_w, i32_w]; rfl
  refine one_ (i := 6) (N := some 11) (rhd_lb 9 127) rfl rfl (one_of HT_.out (by kernel_rfl)) (by decide) (fun K hK => ?_)
  refine goes_ Try.func54 (by kernel_rfl) rfl #[.int .u64 key, .int .i64 c.f1] (by rfl) rfl rfl (by (try simp only [List.map_toArray, List.map_cons, List.map_nil]); first | done | rfl) ?_
  with_reducible refine (hb _).mono ?_
  rintro e u1 ⟨rfl, hbk⟩
  refine ⟨_, rfl, ?_⟩
  have n_B2 := Aside0.mk (blk_below B2.out hbk)
  have n_HB := Aside0.mk (below_step HB.out hbk)
  clear B2 HB hbk
  have B2 := n_B2
  have HB := n_HB
  clear n_B2 n_HB
  refine hK.out _ _ ⟨((blk_cell B2.out 0).trans rfl), ((blk_cell B2.out 1).trans rfl), ((blk_cell B2.out 2).trans rfl), ((blk_cell B2.out 3).trans rfl), ((blk_cell B2.out 4).trans rfl)⟩ (fun hHeld => ?_)
  clear hK K
  refine norm_ (a' := ?_) ?_ ?_
  rotate_left
  · show Act.put _ (some 11) _ = _
    simp only [Act.put, List.setIfInBounds_toArray, List.set_cons_zero, List.set_cons_succ, i64_w, i32_w]
    rfl
  refine one_ (i := 7) (N := some 12) (rhd_lb 9 255) rfl rfl (one_of HT_.out (by kernel_rfl)) (by decide) (fun K hK => ?_)
  refine goes_ Try.func53 (by kernel_rfl) rfl #[.agg #[.int .i64 c.f0, .int .i64 c.f1, .int .i64 c.f2, .int .i64 c.f3, .int .i64 c.f4], .int .i64 k] (by rfl) rfl rfl (by (try simp only [List.map_toArray, List.map_cons, List.map_nil]); first | done | rfl) ?_
  with_reducible refine (hh _).mono ?_
  rintro e u2 ⟨rfl, hbk⟩
  refine ⟨_, rfl, ?_⟩
  have n_B2 := Aside0.mk (blk_below B2.out hbk)
  have n_HB := Aside0.mk (below_step HB.out hbk)
  clear B2 HB hbk
  have B2 := n_B2
  have HB := n_HB
  clear n_B2 n_HB
  refine hK.out _ _ ⟨((blk_cell B2.out 0).trans rfl), ((blk_cell B2.out 1).trans rfl), ((blk_cell B2.out 2).trans rfl), ((blk_cell B2.out 3).trans rfl), ((blk_cell B2.out 4).trans rfl)⟩ (fun hHeld => ?_)
  clear hK K
  refine norm_ (a' := ?_) ?_ ?_
  rotate_left
  · show Act.put _ (some 12) _ = _
    simp only [Act.put, List.setIfInBounds_toArray, List.set_cons_zero, List.set_cons_succ, i64_w, i32_w]
    rfl
  refine pure_ (i := 8) (N := some 4) (v := ?_) (a' := ?_) (rhd_lb 9 511) rfl rfl (any_of HT_.out (by kernel_rfl)) (fun _ _ _ h => h) (Or.inl ⟨by rfl, ?_⟩) ?_ ?_; rotate_left
  · intro w'; go_simp; with_reducible rfl
  rotate_left
  · simp only [Act.put, List.setIfInBounds_toArray, List.set_cons_zero, List.set_cons_succ, i64_w, i32_w]; rfl
  refine done_ (done_of HT_.out (by kernel_rfl)) ?_
  go_wp2
  go_ret
  exact ⟨rfl, HB.out⟩
theorem wl_zero (n : Nat) (at_ : Int) : cRd (List.replicate n 0) at_ = 0 := by
  unfold cRd
  split
  · simp only [List.getD, List.getElem?_replicate]
    split <;> rfl
  · rfl
theorem grown17 (W : World) (g : Nat) {v0 v1 v2 v3 v4 v5 v6 v7 v8 v9 v10 v11 v12 v13 v14 v15 v16 : Value} : W.grownBy (((((((((((((((((W.setCell ⟨g, 0, none⟩ (v0)).setCell ⟨g, 1, none⟩ (v1)).setCell ⟨g, 2, none⟩ (v2)).setCell ⟨g, 3, none⟩ (v3)).setCell ⟨g, 4, none⟩ (v4)).setCell ⟨g, 5, none⟩ (v5)).setCell ⟨g, 6, none⟩ (v6)).setCell ⟨g, 7, none⟩ (v7)).setCell ⟨g, 8, none⟩ (v8)).setCell ⟨g, 9, none⟩ (v9)).setCell ⟨g, 10, none⟩ (v10)).setCell ⟨g, 11, none⟩ (v11)).setCell ⟨g, 12, none⟩ (v12)).setCell ⟨g, 13, none⟩ (v13)).setCell ⟨g, 14, none⟩ (v14)).setCell ⟨g, 15, none⟩ (v15)).setCell ⟨g, 16, none⟩ (v16)) (some g) := (grown_set (grown_set (grown_set (grown_set (grown_set (grown_set (grown_set (grown_set (grown_set (grown_set (grown_set (grown_set (grown_set (grown_set (grown_set (grown_set (grown_set (grown_self W g) v0) v1) v2) v3) v4) v5) v6) v7) v8) v9) v10) v11) v12) v13) v14) v15) v16)
theorem bel17 {w0 W : World} {N g : Nat} {v0 v1 v2 v3 v4 v5 v6 v7 v8 v9 v10 v11 v12 v13 v14 v15 v16 : Value} (hb : Below N w0 W) (hN : N ≤ W.heap.size) (hg : N ≤ g) : Below N w0 (((((((((((((((((W.setCell ⟨g, 0, none⟩ (v0)).setCell ⟨g, 1, none⟩ (v1)).setCell ⟨g, 2, none⟩ (v2)).setCell ⟨g, 3, none⟩ (v3)).setCell ⟨g, 4, none⟩ (v4)).setCell ⟨g, 5, none⟩ (v5)).setCell ⟨g, 6, none⟩ (v6)).setCell ⟨g, 7, none⟩ (v7)).setCell ⟨g, 8, none⟩ (v8)).setCell ⟨g, 9, none⟩ (v9)).setCell ⟨g, 10, none⟩ (v10)).setCell ⟨g, 11, none⟩ (v11)).setCell ⟨g, 12, none⟩ (v12)).setCell ⟨g, 13, none⟩ (v13)).setCell ⟨g, 14, none⟩ (v14)).setCell ⟨g, 15, none⟩ (v15)).setCell ⟨g, 16, none⟩ (v16)) := hb.grown (grown17 W g) hN (fun k hk => by cases hk; exact hg)
theorem WAt.far {W W1 : World} {pw gc gw : Nat} {bk : Value} {c : S23} {ws : List Int} {st : Int} (h : WAt W pw gc gw bk c ws st) {g : Nat} (k : W.grownBy W1 (some g)) (hn : pw ≠ g ∧ gc ≠ g ∧ gw ≠ g) : WAt W1 pw gc gw bk c ws st :=
  ⟨blk_grown h.w k hn.1, ⟨blk_grown h.m.c k hn.2.1, blk_grown h.m.w k hn.2.2, h.m.ne⟩, h.n1, h.n2⟩
theorem eqA23 (d : Nat) (w : World) (x0 y0 : Int) (x1 y1 : Int) (x2 y2 : Int) (x3 y3 : Int) (x4 y4 : Int) :
    (Op.equalIn (d + 2) 23 (.agg #[.int .i64 x0, .int .i64 x1, .int .i64 x2, .int .i64 x3, .int .i64 x4]) (.agg #[.int .i64 y0, .int .i64 y1, .int .i64 y2, .int .i64 y3, .int .i64 y4])).run Try.prog w = .ok (x0 == y0 && (x1 == y1 && (x2 == y2 && (x3 == y3 && (x4 == y4))))) w := by
  refine eqA_of Try.underlying23 (by kernel_rfl) ?_
  refine eqf_cons (by rfl) (by go_simp; rfl) (by go_simp; rfl) (by go_simp) ?_
  refine eqf_cons (by rfl) (by go_simp; rfl) (by go_simp; rfl) (by go_simp) ?_
  refine eqf_cons (by rfl) (by go_simp; rfl) (by go_simp; rfl) (by go_simp) ?_
  refine eqf_cons (by rfl) (by go_simp; rfl) (by go_simp; rfl) (by go_simp) ?_
  exact eqf_last (by rfl) (by go_simp; rfl) (by go_simp; rfl) (by go_simp)
theorem put17 {W : World} {g t : Nat} {z0 z1 z2 z3 z4 z5 z6 z7 z8 z9 z10 z11 z12 z13 z14 z15 z16 v0 v1 v2 v3 v4 v5 v6 v7 v8 v9 v10 v11 v12 v13 v14 v15 v16 : Value} (h : W.heap[g]? = some (.cells #[z0, z1, z2, z3, z4, z5, z6, z7, z8, z9, z10, z11, z12, z13, z14, z15, z16] t (0, 0))) : (((((((((((((((((W.setCell ⟨g, 0, none⟩ (v0)).setCell ⟨g, 1, none⟩ (v1)).setCell ⟨g, 2, none⟩ (v2)).setCell ⟨g, 3, none⟩ (v3)).setCell ⟨g, 4, none⟩ (v4)).setCell ⟨g, 5, none⟩ (v5)).setCell ⟨g, 6, none⟩ (v6)).setCell ⟨g, 7, none⟩ (v7)).setCell ⟨g, 8, none⟩ (v8)).setCell ⟨g, 9, none⟩ (v9)).setCell ⟨g, 10, none⟩ (v10)).setCell ⟨g, 11, none⟩ (v11)).setCell ⟨g, 12, none⟩ (v12)).setCell ⟨g, 13, none⟩ (v13)).setCell ⟨g, 14, none⟩ (v14)).setCell ⟨g, 15, none⟩ (v15)).setCell ⟨g, 16, none⟩ (v16)).heap[g]? = some (.cells #[v0, v1, v2, v3, v4, v5, v6, v7, v8, v9, v10, v11, v12, v13, v14, v15, v16] t (0, 0)) := by
  have h1 := (cel_put (cel_put (cel_put (cel_put (cel_put (cel_put (cel_put (cel_put (cel_put (cel_put (cel_put (cel_put (cel_put (cel_put (cel_put (cel_put (cel_put h (i := 0) v0) (i := 1) v1) (i := 2) v2) (i := 3) v3) (i := 4) v4) (i := 5) v5) (i := 6) v6) (i := 7) v7) (i := 8) v8) (i := 9) v9) (i := 10) v10) (i := 11) v11) (i := 12) v12) (i := 13) v13) (i := 14) v14) (i := 15) v15) (i := 16) v16)
  simp only [List.setIfInBounds_toArray, List.set_cons_zero, List.set_cons_succ] at h1
  exact h1
def whd_lb (n m : Nat) : Array Bool := ((List.range n).map (fun i => m.testBit i)).toArray
def whd.T11 : Bool × List (List Nat × List Nat) := (true, [([], []), ([0], [0]), ([1], [1]), ([1], [1]), ([2, 3, 1, 1], [1, 2, 3]), ([1], [1]), ([1], [1]), ([5, 6, 4, 1], [1, 5, 6]), ([4, 7, 1], [1, 4, 7]), ([1, 8], [1, 8]), ([9, 7], [9]), ([10], [10]), ([10], [10]), ([11, 12, 10, 10], [10, 11, 12]), ([13, 10], [10, 13]), ([10, 14], [10, 14]), ([15, 13], [15]), ([16], [16]), ([17, 16, 16], [16, 17]), ([18, 16], [16, 18]), ([16, 19], [16, 19]), ([20, 18], [20]), ([21], [21]), ([21], [21]), ([22, 23, 21, 21], [21, 22, 23]), ([24, 21], [21, 24]), ([21, 25], [21, 25]), ([26, 24], [26]), ([27], [27]), ([28, 27, 27], [27, 28]), ([29, 27], [27, 29]), ([27, 30], [27, 30]), ([31, 29], [31]), ([32], [32]), ([32], [32]), ([33, 34, 32, 32], [32, 33, 34]), ([35, 32], [32, 35]), ([32, 36], [32, 36]), ([37, 35], [37]), ([38], [38]), ([39, 38, 38], [38, 39]), ([40, 38], [38, 40]), ([38, 41], [38, 41]), ([42, 40, 0, 1, 2, 3, 4, 5, 6, 7, 8, 9, 10, 11, 12, 13, 14, 15, 16, 17, 18, 19, 20, 21, 22, 23, 24, 25, 26, 27, 28, 29, 30, 31, 32, 33, 34, 35, 36, 37, 38, 39, 40, 41, 42], [42])])
def whd.B11 : List Nat := [0, 1, 3, 3, 15, 3, 3, 127, 255, 511, 1023, 2047, 2047, 8191, 16383, 32767, 65535, 131071, 262143, 524287, 1048575, 2097151, 4194303, 4194303, 16777215, 33554431, 67108863, 134217727, 268435455, 536870911, 1073741823, 2147483647, 4294967295, 8589934591, 8589934591, 34359738367, 68719476735, 137438953471, 274877906943, 549755813887, 1099511627775, 2199023255551, 4398046511103, 8796093022207]
theorem whd.tab11 : rtab .any (opsOf Try.f5 11) = whd.T11 := by kernel_rfl
theorem whd.bits11 : waitsOk whd.T11.2 whd.B11 = true := by kernel_rfl
def corrielaw08_WorldHeads.f (a0_0 a0_1 a0_2 a0_3 a0_4 : Int) (key : Int) : Option Bool := some true
set_option maxHeartbeats 8000000 in
set_option maxRecDepth 100000 in
theorem corrielaw08_WorldHeads.calls (a0_0 a0_1 a0_2 a0_3 a0_4 : Int) (key : Int) (r : Bool) (w : World) (h : corrielaw08_WorldHeads.f a0_0 a0_1 a0_2 a0_3 a0_4 key = some r) :
    Calls Try.prog 5 #[.agg #[.int .i64 a0_0, .int .i64 a0_1, .int .i64 a0_2, .int .i64 a0_3, .int .i64 a0_4], .int .u64 key] w fun e w' => e = .returned (.bool r) ∧ Below w.heap.size w w' := by
  obtain rfl := Option.some.inj h
  clear h
  have HB := Aside0.mk (Below.refl w.heap.size w)
  by_cases hF : FewP a0_0 a0_1 a0_2 a0_3 a0_4
  rotate_left
  · have HF := Aside0.mk (show ∀ W : World, Calls Try.prog 9 #[.agg #[.int .i64 a0_0, .int .i64 a0_1, .int .i64 a0_2, .int .i64 a0_3, .int .i64 a0_4]] W (fun e w' => e = .returned (.bool false) ∧ Below W.heap.size W w') from fun W => few_calls a0_0 a0_1 a0_2 a0_3 a0_4 false (decide_eq_false hF) W)
    clear hF
    go_enter Try.func5, Try.ntmps5
    go_wp2_with (first | ((with_reducible refine gate_dst (N := 2) rfl ?_); refine box_event ?hg (N := 2) ?hd (cs := #[.int .i64 a0_0, .int .i64 a0_1, .int .i64 a0_2, .int .i64 a0_3, .int .i64 a0_4]) (t := 23) ?hr ?_; (case hd => rfl); (case hg => rfl); (case hr => first | (go_simp; done) | (go_simp; rfl)); intro g2 hg w1 hbox hbk; have B2 := Aside0.mk hbox; have HGB2 := Aside0.mk (show w.heap.size ≤ g2 from by rw [hg]; exact HB.out.size); have n_HB := Aside0.mk (below_step HB.out hbk); clear HB; have HB := n_HB; clear n_HB; clear hbk hbox hg) | (go_at_call 8; (with_reducible refine (corrielaw08_awake.calls true _ rfl).mono ?_); rintro e w0 ⟨rfl, hbk⟩; have n_B2 := Aside0.mk (blk_below B2.out hbk); have n_HB := Aside0.mk (below_step HB.out hbk); clear B2 HB; have B2 := n_B2; have HB := n_HB; clear n_B2 n_HB; have c2_0 : w0.cell? ⟨g2, 0, none⟩ = some (.int .i64 a0_0) := (blk_cell B2.out 0).trans rfl; have c2_1 : w0.cell? ⟨g2, 1, none⟩ = some (.int .i64 a0_1) := (blk_cell B2.out 1).trans rfl; have c2_2 : w0.cell? ⟨g2, 2, none⟩ = some (.int .i64 a0_2) := (blk_cell B2.out 2).trans rfl; have c2_3 : w0.cell? ⟨g2, 3, none⟩ = some (.int .i64 a0_3) := (blk_cell B2.out 3).trans rfl; have c2_4 : w0.cell? ⟨g2, 4, none⟩ = some (.int .i64 a0_4) := (blk_cell B2.out 4).trans rfl; clear hbk) | (go_at_call 9; (with_reducible refine (HF.out _).mono ?_); rintro e wf ⟨rfl, hbk⟩; clear c2_0 c2_1 c2_2 c2_3 c2_4; have n_B2 := Aside0.mk (blk_below B2.out hbk); have n_HB := Aside0.mk (below_step HB.out hbk); clear B2 HB; have B2 := n_B2; have HB := n_HB; clear n_B2 n_HB; have c2_0 : wf.cell? ⟨g2, 0, none⟩ = some (.int .i64 a0_0) := (blk_cell B2.out 0).trans rfl; have c2_1 : wf.cell? ⟨g2, 1, none⟩ = some (.int .i64 a0_1) := (blk_cell B2.out 1).trans rfl; have c2_2 : wf.cell? ⟨g2, 2, none⟩ = some (.int .i64 a0_2) := (blk_cell B2.out 2).trans rfl; have c2_3 : wf.cell? ⟨g2, 3, none⟩ = some (.int .i64 a0_3) := (blk_cell B2.out 3).trans rfl; have c2_4 : wf.cell? ⟨g2, 4, none⟩ = some (.int .i64 a0_4) := (blk_cell B2.out 4).trans rfl; clear hbk))
    go_ret
    exact ⟨by first | rfl | (simp [*]; done), HB.out⟩
  have HF := Aside0.mk (show ∀ W : World, Calls Try.prog 9 #[.agg #[.int .i64 a0_0, .int .i64 a0_1, .int .i64 a0_2, .int .i64 a0_3, .int .i64 a0_4]] W (fun e w' => e = .returned (.bool true) ∧ Below W.heap.size W w') from fun W => few_calls a0_0 a0_1 a0_2 a0_3 a0_4 true (decide_eq_true hF) W)
  have hO := hF.1
  clear hF
  have hbn := bnds hO
  obtain ⟨m, hm⟩ : ∃ m, cNew (1 + a0_1 + 2 * (a0_0 * a0_4) + a0_0 * a0_4 + a0_0) = m := ⟨_, rfl⟩
  have hml : (m : Int) = (1 + a0_1 + 2 * (a0_0 * a0_4) + a0_0 * a0_4 + a0_0) := by rw [← hm]; exact cNew_len (by omega) (by omega)
  have HN0 := Aside0.mk (show ∀ W : World, Calls Try.prog 10 #[.agg #[.int .i64 a0_0, .int .i64 a0_1, .int .i64 a0_2, .int .i64 a0_3, .int .i64 a0_4]] W (fun e w' => ∃ (pw gc gw : Nat) (bk : Value), e = .returned (.tuple #[.pointer (some ⟨pw, 0, none⟩), .int .i64 0]) ∧ WAt w' pw gc gw bk ⟨a0_0, a0_1, a0_2, a0_3, a0_4⟩ (List.replicate m 0) 0 ∧ (W.heap.size ≤ pw ∧ W.heap.size ≤ gc ∧ W.heap.size ≤ gw) ∧ Below W.heap.size W w') from fun W => (wl_New_ok ⟨a0_0, a0_1, a0_2, a0_3, a0_4⟩ hO (1 + a0_1 + 2 * (a0_0 * a0_4) + a0_0 * a0_4 + a0_0) (fun W => layout_Len.calls 8 a0_0 a0_1 a0_2 a0_3 a0_4 (1 + a0_1 + 2 * (a0_0 * a0_4) + a0_0 * a0_4 + a0_0) W (by rw [len_eq 0, if_pos hO])) W).mono (fun e w' h => by
    obtain ⟨pw, gc, gw, p, gt, go, gn, e1, hA, _, _, _, hg, hb⟩ := h
    rw [hm] at hA
    exact ⟨pw, gc, gw, _, e1, hA, hg, hb⟩))
  have H2 := Aside0.mk (show ∀ W : World, Calls Try.prog 21 #[.agg #[.int .i64 a0_0, .int .i64 a0_1, .int .i64 a0_2, .int .i64 a0_3, .int .i64 a0_4]] W (fun e w' => ∃ q : R8, e = .returned (.tuple #[.agg #[.int .i64 a0_0, .int .i64 a0_1, .int .i64 a0_2, .int .i64 a0_3, .int .i64 a0_4, .slice q.A m q.C, .int .i64 0, .int .i64 a0_0, .int .i64 a0_1, .int .i64 a0_2, .int .i64 a0_3, .int .i64 a0_4, .slice q.a5 a0_0.toNat q.c5, .slice q.a6 a0_0.toNat q.c6, .slice q.a7 a0_0.toNat q.c7, .slice q.a8 0 q.c8, .slice q.a9 0 q.c9], .int .i64 0]) ∧ Below W.heap.size W w') from fun W => (d8_New ⟨a0_0, a0_1, a0_2, a0_3, a0_4⟩ hO m hml W).mono (fun e w' h => by
    obtain ⟨q, e1, _, hb⟩ := h
    exact ⟨q, e1, hb⟩))
  obtain ⟨kb, hk1, hk2⟩ := bucket_same key a0_1 hO.2.1
  obtain ⟨hd, hhd⟩ : ∃ hd, (if Ok a0_0 a0_1 a0_2 a0_3 a0_4 ∧ 0 ≤ kb ∧ kb < a0_1 then 1 + kb else -1) = hd := ⟨_, rfl⟩
  have HHD := Aside0.mk (show ∀ (W : World) (pw gc gw : Nat) (bk : Value), WAt W pw gc gw bk ⟨a0_0, a0_1, a0_2, a0_3, a0_4⟩ (List.replicate m 0) 0 → Calls Try.prog 22 #[.pointer (some ⟨pw, 0, none⟩), .int .u64 key] W (fun e w' => e = .returned (.int .i64 hd) ∧ WAt w' pw gc gw bk ⟨a0_0, a0_1, a0_2, a0_3, a0_4⟩ (List.replicate m 0) 0 ∧ Touch (fun k => k = gc ∨ k = gw) W w') from fun W pw gc gw bk h => wl_Head pw gc gw bk ⟨a0_0, a0_1, a0_2, a0_3, a0_4⟩ _ _ key kb hd W h (fun W => route_Bucket.calls 20 key a0_1 kb W hk1) (fun W => layout_Head.calls 8 a0_0 a0_1 a0_2 a0_3 a0_4 kb hd W (by rw [head_eq 0, hhd])))
  have HRH := Aside0.mk (show ∀ (W : World) (q : R8), Calls Try.prog 23 #[.agg #[.int .i64 a0_0, .int .i64 a0_1, .int .i64 a0_2, .int .i64 a0_3, .int .i64 a0_4, .slice q.A m q.C, .int .i64 0, .int .i64 a0_0, .int .i64 a0_1, .int .i64 a0_2, .int .i64 a0_3, .int .i64 a0_4, .slice q.a5 a0_0.toNat q.c5, .slice q.a6 a0_0.toNat q.c6, .slice q.a7 a0_0.toNat q.c7, .slice q.a8 0 q.c8, .slice q.a9 0 q.c9], .int .u64 key] W (fun e w' => e = .returned (.int .i64 hd) ∧ Below W.heap.size W w') from fun W q => d8_Head ⟨a0_0, a0_1, a0_2, a0_3, a0_4⟩ m a0_0.toNat 0 q key kb hd W (fun W => (corrieref03_Bucket.calls 20 key a0_1 kb W hk2).mono (fun e w' h => ⟨h.1, h.2.below⟩)) (fun W => corrieref05_Head.calls 1 a0_0 a0_1 a0_2 a0_3 a0_4 kb hd W (by rw [rhead_eq 0, hhd])))
  have HN1 := Aside0.mk (show ∀ W : World, Calls Try.prog 22 #[.pointer none, .int .u64 key] W (fun e w' => e = .returned (.int .i64 (-1)) ∧ Below W.heap.size W w') from fun W => (wl_Head_nil key W).mono (fun e w' h => ⟨h.1, by rw [h.2]; exact Below.refl _ _⟩))
  clear hO hbn hm hml hk1 hk2 hhd
  go_enter Try.func5, Try.ntmps5
  go_upto_region 6 with (first | ((with_reducible refine gate_dst (N := 2) rfl ?_); refine box_event ?hg (N := 2) ?hd (cs := #[.int .i64 a0_0, .int .i64 a0_1, .int .i64 a0_2, .int .i64 a0_3, .int .i64 a0_4]) (t := 23) ?hr ?_; (case hd => rfl); (case hg => rfl); (case hr => first | (go_simp; done) | (go_simp; rfl)); intro g2 hg w1 hbox hbk; have B2 := Aside0.mk hbox; have HGB2 := Aside0.mk (show w.heap.size ≤ g2 from by rw [hg]; exact HB.out.size); have n_HB := Aside0.mk (below_step HB.out hbk); clear HB; have HB := n_HB; clear n_HB; clear hbk hbox hg) | (go_at_call 8; (with_reducible refine (corrielaw08_awake.calls true _ rfl).mono ?_); rintro e w0 ⟨rfl, hbk⟩; have n_B2 := Aside0.mk (blk_below B2.out hbk); have n_HB := Aside0.mk (below_step HB.out hbk); clear B2 HB; have B2 := n_B2; have HB := n_HB; clear n_B2 n_HB; have c2_0 : w0.cell? ⟨g2, 0, none⟩ = some (.int .i64 a0_0) := (blk_cell B2.out 0).trans rfl; have c2_1 : w0.cell? ⟨g2, 1, none⟩ = some (.int .i64 a0_1) := (blk_cell B2.out 1).trans rfl; have c2_2 : w0.cell? ⟨g2, 2, none⟩ = some (.int .i64 a0_2) := (blk_cell B2.out 2).trans rfl; have c2_3 : w0.cell? ⟨g2, 3, none⟩ = some (.int .i64 a0_3) := (blk_cell B2.out 3).trans rfl; have c2_4 : w0.cell? ⟨g2, 4, none⟩ = some (.int .i64 a0_4) := (blk_cell B2.out 4).trans rfl; clear hbk) | (go_at_call 9; (with_reducible refine (HF.out _).mono ?_); rintro e wf ⟨rfl, hbk⟩; clear c2_0 c2_1 c2_2 c2_3 c2_4; have n_B2 := Aside0.mk (blk_below B2.out hbk); have n_HB := Aside0.mk (below_step HB.out hbk); clear B2 HB; have B2 := n_B2; have HB := n_HB; clear n_B2 n_HB; have c2_0 : wf.cell? ⟨g2, 0, none⟩ = some (.int .i64 a0_0) := (blk_cell B2.out 0).trans rfl; have c2_1 : wf.cell? ⟨g2, 1, none⟩ = some (.int .i64 a0_1) := (blk_cell B2.out 1).trans rfl; have c2_2 : wf.cell? ⟨g2, 2, none⟩ = some (.int .i64 a0_2) := (blk_cell B2.out 2).trans rfl; have c2_3 : wf.cell? ⟨g2, 3, none⟩ = some (.int .i64 a0_3) := (blk_cell B2.out 3).trans rfl; have c2_4 : wf.cell? ⟨g2, 4, none⟩ = some (.int .i64 a0_4) := (blk_cell B2.out 4).trans rfl; clear hbk) | (go_at_call 10; (with_reducible refine (HN0.out _).mono ?_); rintro e w3 ⟨pw, gc, gw, bk, rfl, hA, hg, hbk⟩; have HA := Aside0.mk hA; have HGN := Aside0.mk (show w.heap.size ≤ pw ∧ w.heap.size ≤ gc ∧ w.heap.size ≤ gw from by have := HB.out.size; omega); clear c2_0 c2_1 c2_2 c2_3 c2_4; have n_B2 := Aside0.mk (blk_below B2.out hbk); have n_HB := Aside0.mk (below_step HB.out hbk); clear B2 HB; have B2 := n_B2; have HB := n_HB; clear n_B2 n_HB; have c2_0 : w3.cell? ⟨g2, 0, none⟩ = some (.int .i64 a0_0) := (blk_cell B2.out 0).trans rfl; have c2_1 : w3.cell? ⟨g2, 1, none⟩ = some (.int .i64 a0_1) := (blk_cell B2.out 1).trans rfl; have c2_2 : w3.cell? ⟨g2, 2, none⟩ = some (.int .i64 a0_2) := (blk_cell B2.out 2).trans rfl; have c2_3 : w3.cell? ⟨g2, 3, none⟩ = some (.int .i64 a0_3) := (blk_cell B2.out 3).trans rfl; have c2_4 : w3.cell? ⟨g2, 4, none⟩ = some (.int .i64 a0_4) := (blk_cell B2.out 4).trans rfl; clear hbk hA hg) | (go_at_call 21; (with_reducible refine (H2.out _).mono ?_); rintro e w4 ⟨q, rfl, hbk⟩; clear c2_0 c2_1 c2_2 c2_3 c2_4; clear B2; have n_HA := Aside0.mk (HA.out.below hbk); have n_HB := Aside0.mk (below_step HB.out hbk); clear HA HB; have HA := n_HA; have HB := n_HB; clear n_HA n_HB; clear hbk) | ((with_reducible refine gate_dst (N := 8) rfl ?_); refine box_event ?hg (N := 8) ?hd (cs := #[.int .i64 0, .int .i64 0, .int .i64 0, .int .i64 0, .int .i64 0, .slice none 0 0, .int .i64 0, .int .i64 0, .int .i64 0, .int .i64 0, .int .i64 0, .int .i64 0, .slice none 0 0, .slice none 0 0, .slice none 0 0, .slice none 0 0, .slice none 0 0]) (t := 60) ?hr ?_; (case hd => rfl); (case hg => rfl); (case hr => first | (go_simp; done) | (go_simp; rfl)); intro g8 hg w5 hbox hbk; have B8 := Aside0.mk hbox; have HD8 := Aside0.mk (show pw ≠ g8 ∧ gc ≠ g8 ∧ gw ≠ g8 from by have := HA.out.lt; omega); have HGB8 := Aside0.mk (show w.heap.size ≤ g8 from by rw [hg]; exact HB.out.size); have n_HA := Aside0.mk (HA.out.below hbk); have n_HB := Aside0.mk (below_step HB.out hbk); clear HA HB; have HA := n_HA; have HB := n_HB; clear n_HA n_HB; have c8_0 : w5.cell? ⟨g8, 0, none⟩ = some (.int .i64 0) := (blk_cell B8.out 0).trans rfl; have fc8_0 : w5.frozen? ⟨g8, 0, none⟩ = false := blk_frozen B8.out 0; have c8_1 : w5.cell? ⟨g8, 1, none⟩ = some (.int .i64 0) := (blk_cell B8.out 1).trans rfl; have fc8_1 : w5.frozen? ⟨g8, 1, none⟩ = false := blk_frozen B8.out 1; have c8_2 : w5.cell? ⟨g8, 2, none⟩ = some (.int .i64 0) := (blk_cell B8.out 2).trans rfl; have fc8_2 : w5.frozen? ⟨g8, 2, none⟩ = false := blk_frozen B8.out 2; have c8_3 : w5.cell? ⟨g8, 3, none⟩ = some (.int .i64 0) := (blk_cell B8.out 3).trans rfl; have fc8_3 : w5.frozen? ⟨g8, 3, none⟩ = false := blk_frozen B8.out 3; have c8_4 : w5.cell? ⟨g8, 4, none⟩ = some (.int .i64 0) := (blk_cell B8.out 4).trans rfl; have fc8_4 : w5.frozen? ⟨g8, 4, none⟩ = false := blk_frozen B8.out 4; have c8_5 : w5.cell? ⟨g8, 5, none⟩ = some (.slice none 0 0) := (blk_cell B8.out 5).trans rfl; have fc8_5 : w5.frozen? ⟨g8, 5, none⟩ = false := blk_frozen B8.out 5; have c8_6 : w5.cell? ⟨g8, 6, none⟩ = some (.int .i64 0) := (blk_cell B8.out 6).trans rfl; have fc8_6 : w5.frozen? ⟨g8, 6, none⟩ = false := blk_frozen B8.out 6; have c8_7 : w5.cell? ⟨g8, 7, none⟩ = some (.int .i64 0) := (blk_cell B8.out 7).trans rfl; have fc8_7 : w5.frozen? ⟨g8, 7, none⟩ = false := blk_frozen B8.out 7; have c8_8 : w5.cell? ⟨g8, 8, none⟩ = some (.int .i64 0) := (blk_cell B8.out 8).trans rfl; have fc8_8 : w5.frozen? ⟨g8, 8, none⟩ = false := blk_frozen B8.out 8; have c8_9 : w5.cell? ⟨g8, 9, none⟩ = some (.int .i64 0) := (blk_cell B8.out 9).trans rfl; have fc8_9 : w5.frozen? ⟨g8, 9, none⟩ = false := blk_frozen B8.out 9; have c8_10 : w5.cell? ⟨g8, 10, none⟩ = some (.int .i64 0) := (blk_cell B8.out 10).trans rfl; have fc8_10 : w5.frozen? ⟨g8, 10, none⟩ = false := blk_frozen B8.out 10; have c8_11 : w5.cell? ⟨g8, 11, none⟩ = some (.int .i64 0) := (blk_cell B8.out 11).trans rfl; have fc8_11 : w5.frozen? ⟨g8, 11, none⟩ = false := blk_frozen B8.out 11; have c8_12 : w5.cell? ⟨g8, 12, none⟩ = some (.slice none 0 0) := (blk_cell B8.out 12).trans rfl; have fc8_12 : w5.frozen? ⟨g8, 12, none⟩ = false := blk_frozen B8.out 12; have c8_13 : w5.cell? ⟨g8, 13, none⟩ = some (.slice none 0 0) := (blk_cell B8.out 13).trans rfl; have fc8_13 : w5.frozen? ⟨g8, 13, none⟩ = false := blk_frozen B8.out 13; have c8_14 : w5.cell? ⟨g8, 14, none⟩ = some (.slice none 0 0) := (blk_cell B8.out 14).trans rfl; have fc8_14 : w5.frozen? ⟨g8, 14, none⟩ = false := blk_frozen B8.out 14; have c8_15 : w5.cell? ⟨g8, 15, none⟩ = some (.slice none 0 0) := (blk_cell B8.out 15).trans rfl; have fc8_15 : w5.frozen? ⟨g8, 15, none⟩ = false := blk_frozen B8.out 15; have c8_16 : w5.cell? ⟨g8, 16, none⟩ = some (.slice none 0 0) := (blk_cell B8.out 16).trans rfl; have fc8_16 : w5.frozen? ⟨g8, 16, none⟩ = false := blk_frozen B8.out 16; clear hbk hbox hg))
  obtain ⟨W6, hW6⟩ : ∃ W, (((((((((((((((((w5.setCell ⟨g8, 0, none⟩ (.int .i64 a0_0)).setCell ⟨g8, 1, none⟩ (.int .i64 a0_1)).setCell ⟨g8, 2, none⟩ (.int .i64 a0_2)).setCell ⟨g8, 3, none⟩ (.int .i64 a0_3)).setCell ⟨g8, 4, none⟩ (.int .i64 a0_4)).setCell ⟨g8, 5, none⟩ (.slice q.A m q.C)).setCell ⟨g8, 6, none⟩ (.int .i64 0)).setCell ⟨g8, 7, none⟩ (.int .i64 a0_0)).setCell ⟨g8, 8, none⟩ (.int .i64 a0_1)).setCell ⟨g8, 9, none⟩ (.int .i64 a0_2)).setCell ⟨g8, 10, none⟩ (.int .i64 a0_3)).setCell ⟨g8, 11, none⟩ (.int .i64 a0_4)).setCell ⟨g8, 12, none⟩ (.slice q.a5 a0_0.toNat q.c5)).setCell ⟨g8, 13, none⟩ (.slice q.a6 a0_0.toNat q.c6)).setCell ⟨g8, 14, none⟩ (.slice q.a7 a0_0.toNat q.c7)).setCell ⟨g8, 15, none⟩ (.slice q.a8 0 q.c8)).setCell ⟨g8, 16, none⟩ (.slice q.a9 0 q.c9)) = W := ⟨_, rfl⟩
  rw [hW6]
  have n_HA := Aside0.mk (show WAt W6 pw gc gw bk ⟨a0_0, a0_1, a0_2, a0_3, a0_4⟩ (List.replicate m 0) 0 from by rw [← hW6]; exact HA.out.far (grown17 _ _) HD8.out)
  have n_B8 := Aside0.mk (show W6.heap[g8]? = some (.cells #[.int .i64 a0_0, .int .i64 a0_1, .int .i64 a0_2, .int .i64 a0_3, .int .i64 a0_4, .slice q.A m q.C, .int .i64 0, .int .i64 a0_0, .int .i64 a0_1, .int .i64 a0_2, .int .i64 a0_3, .int .i64 a0_4, .slice q.a5 a0_0.toNat q.c5, .slice q.a6 a0_0.toNat q.c6, .slice q.a7 a0_0.toNat q.c7, .slice q.a8 0 q.c8, .slice q.a9 0 q.c9] 60 (0, 0)) from by rw [← hW6]; exact put17 B8.out)
  have n_HB := Aside0.mk (show Below w.heap.size w W6 from by rw [← hW6]; exact bel17 HB.out HB.out.size HGB8.out)
  clear hW6 HA B8 HB
  have HA := n_HA
  have B8 := n_B8
  have HB := n_HB
  clear n_HA n_B8 n_HB
  clear c8_0 fc8_0 c8_1 fc8_1 c8_2 fc8_2 c8_3 fc8_3 c8_4 fc8_4 c8_5 fc8_5 c8_6 fc8_6 c8_7 fc8_7 c8_8 fc8_8 c8_9 fc8_9 c8_10 fc8_10 c8_11 fc8_11 c8_12 fc8_12 c8_13 fc8_13 c8_14 fc8_14 c8_15 fc8_15 c8_16 fc8_16
  go_upto_region 11 with (first | (go_at_call 15; (with_reducible refine (wl_Set_nil 1 key _).mono ?_); rintro e wk ⟨rfl, hq⟩; have hq2 := hq.symm; subst hq2; clear hq) | (go_at_call 17; (with_reducible refine (wl_Say_nil 0 0 _).mono ?_); rintro e wk ⟨rfl, hq⟩; have hq2 := hq.symm; subst hq2; clear hq))
  have n_HA := Aside0.mk (HA.out.drew)
  have n_B8 := Aside0.mk (blk_drew B8.out)
  have n_HB := Aside0.mk (below_drew1 HB.out)
  clear HA B8 HB
  have HA := n_HA
  have B8 := n_B8
  have HB := n_HB
  clear n_HA n_B8 n_HB
  refine start_ (n := 44) (S := fun w' => w'.cell? ⟨g8, 0, none⟩ = some (.int .i64 a0_0) ∧ w'.cell? ⟨g8, 1, none⟩ = some (.int .i64 a0_1) ∧ w'.cell? ⟨g8, 2, none⟩ = some (.int .i64 a0_2) ∧ w'.cell? ⟨g8, 3, none⟩ = some (.int .i64 a0_3) ∧ w'.cell? ⟨g8, 4, none⟩ = some (.int .i64 a0_4) ∧ w'.cell? ⟨g8, 5, none⟩ = some (.slice q.A m q.C) ∧ w'.cell? ⟨g8, 6, none⟩ = some (.int .i64 0) ∧ w'.cell? ⟨g8, 7, none⟩ = some (.int .i64 a0_0) ∧ w'.cell? ⟨g8, 8, none⟩ = some (.int .i64 a0_1) ∧ w'.cell? ⟨g8, 9, none⟩ = some (.int .i64 a0_2) ∧ w'.cell? ⟨g8, 10, none⟩ = some (.int .i64 a0_3) ∧ w'.cell? ⟨g8, 11, none⟩ = some (.int .i64 a0_4) ∧ w'.cell? ⟨g8, 12, none⟩ = some (.slice q.a5 a0_0.toNat q.c5) ∧ w'.cell? ⟨g8, 13, none⟩ = some (.slice q.a6 a0_0.toNat q.c6) ∧ w'.cell? ⟨g8, 14, none⟩ = some (.slice q.a7 a0_0.toNat q.c7) ∧ w'.cell? ⟨g8, 15, none⟩ = some (.slice q.a8 0 q.c8) ∧ w'.cell? ⟨g8, 16, none⟩ = some (.slice q.a9 0 q.c9)) (ds := []) #[false, false, false, false, false, false, false, false, false, false, false, false, false, false, false, false, false, false, false, false, false, false, false, false, false, false, false, false, false, false, false, false, false, false, false, false, false, false, false, false, false, false, false, false] (by kernel_rfl) rfl rfl ⟨((blk_cell B8.out 0).trans rfl), ((blk_cell B8.out 1).trans rfl), ((blk_cell B8.out 2).trans rfl), ((blk_cell B8.out 3).trans rfl), ((blk_cell B8.out 4).trans rfl), ((blk_cell B8.out 5).trans rfl), ((blk_cell B8.out 6).trans rfl), ((blk_cell B8.out 7).trans rfl), ((blk_cell B8.out 8).trans rfl), ((blk_cell B8.out 9).trans rfl), ((blk_cell B8.out 10).trans rfl), ((blk_cell B8.out 11).trans rfl), ((blk_cell B8.out 12).trans rfl), ((blk_cell B8.out 13).trans rfl), ((blk_cell B8.out 14).trans rfl), ((blk_cell B8.out 15).trans rfl), ((blk_cell B8.out 16).trans rfl)⟩ (fun hHeld => ?_); refine with_tabW whd.tab11 whd.bits11 (fun HT_ HW_ => ?_)
  generalize W6.drew = W1 at HA B8 HB hHeld ⊢
  refine pure_ (i := 0) (N := some 33) (v := ?_) (a' := ?_) (whd_lb 44 1) rfl rfl (any_of HT_.out (by kernel_rfl)) (fun _ _ _ h => h) (Or.inl ⟨by rfl, ?_⟩) ?_ ?_; rotate_left
  · intro w'; go_simp; with_reducible rfl
  rotate_left
  · simp only [Act.put, List.setIfInBounds_toArray, List.set_cons_zero, List.set_cons_succ, i64_w, i32_w]; rfl
  refine pure_ (i := 1) (N := some 34) (v := ?_) (a' := ?_) (whd_lb 44 3) rfl rfl (any_of HT_.out (by kernel_rfl)) (fun _ _ _ h => h) (Or.inl ⟨by rfl, ?_⟩) ?_ ?_; rotate_left
  · intro w'; go_simp; with_reducible rfl
  rotate_left
  · simp only [Act.put, List.setIfInBounds_toArray, List.set_cons_zero, List.set_cons_succ, i64_w, i32_w]; rfl
  refine pure_ (i := 2) (N := some 35) (v := ?_) (a' := ?_) (whd_lb 44 7) rfl rfl (any_of HT_.out (by kernel_rfl)) (fun _ _ _ h => h) (Or.inl ⟨by rfl, ?_⟩) ?_ ?_; rotate_left
  · intro w'; go_simp; with_reducible rfl
  rotate_left
  · simp only [Act.put, List.setIfInBounds_toArray, List.set_cons_zero, List.set_cons_succ, i64_w, i32_w]; rfl
  refine pure_ (i := 3) (N := some 36) (v := ?_) (a' := ?_) (whd_lb 44 15) rfl rfl (any_of HT_.out (by kernel_rfl)) (fun _ _ _ h => h) (Or.inl ⟨by rfl, ?_⟩) ?_ ?_; rotate_left
  · intro w'; go_simp; with_reducible rfl
  rotate_left
  · simp only [Act.put, List.setIfInBounds_toArray, List.set_cons_zero, List.set_cons_succ, i64_w, i32_w]; rfl
  refine pure_ (i := 6) (N := some 39) (v := ?_) (a' := ?_) (whd_lb 44 79) rfl rfl (any_of HT_.out (by kernel_rfl)) (fun _ _ _ h => h) (Or.inl ⟨by rfl, ?_⟩) ?_ ?_; rotate_left
  · intro w'; go_simp; with_reducible rfl
  rotate_left
  · simp only [Act.put, List.setIfInBounds_toArray, List.set_cons_zero, List.set_cons_succ, i64_w, i32_w]; rfl
  refine take_ (i := 5) (N := some 38) (v := ?_) (a' := ?_) (whd_lb 44 111) rfl rfl (take_ofW HT_.out HW_.out (by kernel_rfl)) (fun _ _ _ h => h) (Or.inl ⟨by rfl, ?_⟩) hHeld ?_ ?_; rotate_left
  · rintro w' ⟨s0, s1, s2, s3, s4, s5, s6, s7, s8, s9, s10, s11, s12, s13, s14, s15, s16⟩; go_simp; with_reducible rfl
  rotate_left
  · simp only [Act.put, List.setIfInBounds_toArray, List.set_cons_zero, List.set_cons_succ, i64_w, i32_w]; rfl
  refine one_ (i := 4) (N := some 37) (whd_lb 44 127) rfl rfl (one_of HT_.out (by kernel_rfl)) (by decide) (fun K hK => ?_)
  refine goes_ Try.func22 (by kernel_rfl) rfl #[.pointer (some ⟨pw, 0, none⟩), .int .u64 key] (by rfl) rfl rfl (by (try simp only [List.map_toArray, List.map_cons, List.map_nil]); first | done | rfl) ?_
  with_reducible refine (HHD.out _ pw gc gw bk HA.out).mono ?_
  rintro e u4 ⟨rfl, hA, hT⟩
  refine ⟨_, rfl, ?_⟩
  have hgn := HGN.out
  have hd8 := HD8.out
  have n_HA := Aside0.mk hA
  have n_B8 := Aside0.mk (blk_touch B8.out hT (fun e => e.elim (fun h => hd8.2.1 h.symm) (fun h => hd8.2.2 h.symm)))
  have n_HB := Aside0.mk (HB.out.trans (hT.below HB.out.size (fun k hk => by rcases hk with rfl | rfl <;> omega)))
  clear HA B8 HB hA hT hgn hd8
  have HA := n_HA
  have B8 := n_B8
  have HB := n_HB
  clear n_HA n_B8 n_HB
  refine hK.out _ _ ⟨((blk_cell B8.out 0).trans rfl), ((blk_cell B8.out 1).trans rfl), ((blk_cell B8.out 2).trans rfl), ((blk_cell B8.out 3).trans rfl), ((blk_cell B8.out 4).trans rfl), ((blk_cell B8.out 5).trans rfl), ((blk_cell B8.out 6).trans rfl), ((blk_cell B8.out 7).trans rfl), ((blk_cell B8.out 8).trans rfl), ((blk_cell B8.out 9).trans rfl), ((blk_cell B8.out 10).trans rfl), ((blk_cell B8.out 11).trans rfl), ((blk_cell B8.out 12).trans rfl), ((blk_cell B8.out 13).trans rfl), ((blk_cell B8.out 14).trans rfl), ((blk_cell B8.out 15).trans rfl), ((blk_cell B8.out 16).trans rfl)⟩ (fun hHeld => ?_)
  clear hK K
  refine norm_ (a' := ?_) ?_ ?_
  rotate_left
  · show Act.put _ (some 37) _ = _
    simp only [Act.put, List.setIfInBounds_toArray, List.set_cons_zero, List.set_cons_succ, i64_w, i32_w]
    rfl
  refine one_ (i := 7) (N := some 40) (whd_lb 44 255) rfl rfl (one_of HT_.out (by kernel_rfl)) (by decide) (fun K hK => ?_)
  refine goes_ Try.func23 (by kernel_rfl) rfl #[.agg #[.int .i64 a0_0, .int .i64 a0_1, .int .i64 a0_2, .int .i64 a0_3, .int .i64 a0_4, .slice q.A m q.C, .int .i64 0, .int .i64 a0_0, .int .i64 a0_1, .int .i64 a0_2, .int .i64 a0_3, .int .i64 a0_4, .slice q.a5 a0_0.toNat q.c5, .slice q.a6 a0_0.toNat q.c6, .slice q.a7 a0_0.toNat q.c7, .slice q.a8 0 q.c8, .slice q.a9 0 q.c9], .int .u64 key] (by rfl) rfl rfl (by (try simp only [List.map_toArray, List.map_cons, List.map_nil]); first | done | rfl) ?_
  with_reducible refine (HRH.out _ q).mono ?_
  rintro e u7 ⟨rfl, hbk⟩
  refine ⟨_, rfl, ?_⟩
  have n_HA := Aside0.mk (HA.out.below hbk)
  have n_B8 := Aside0.mk (blk_below B8.out hbk)
  have n_HB := Aside0.mk (below_step HB.out hbk)
  clear HA B8 HB hbk
  have HA := n_HA
  have B8 := n_B8
  have HB := n_HB
  clear n_HA n_B8 n_HB
  refine hK.out _ _ ⟨((blk_cell B8.out 0).trans rfl), ((blk_cell B8.out 1).trans rfl), ((blk_cell B8.out 2).trans rfl), ((blk_cell B8.out 3).trans rfl), ((blk_cell B8.out 4).trans rfl), ((blk_cell B8.out 5).trans rfl), ((blk_cell B8.out 6).trans rfl), ((blk_cell B8.out 7).trans rfl), ((blk_cell B8.out 8).trans rfl), ((blk_cell B8.out 9).trans rfl), ((blk_cell B8.out 10).trans rfl), ((blk_cell B8.out 11).trans rfl), ((blk_cell B8.out 12).trans rfl), ((blk_cell B8.out 13).trans rfl), ((blk_cell B8.out 14).trans rfl), ((blk_cell B8.out 15).trans rfl), ((blk_cell B8.out 16).trans rfl)⟩ (fun hHeld => ?_)
  clear hK K
  refine norm_ (a' := ?_) ?_ ?_
  rotate_left
  · show Act.put _ (some 40) _ = _
    simp only [Act.put, List.setIfInBounds_toArray, List.set_cons_zero, List.set_cons_succ, i64_w, i32_w]
    rfl
  refine pure_ (i := 8) (N := some 41) (v := ?_) (a' := ?_) (whd_lb 44 511) rfl rfl (any_of HT_.out (by kernel_rfl)) (fun _ _ _ h => h) (Or.inl ⟨by rfl, ?_⟩) ?_ ?_; rotate_left
  · intro w'; go_simp; with_reducible rfl
  rotate_left
  · simp only [Act.put, List.setIfInBounds_toArray, List.set_cons_zero, List.set_cons_succ, i64_w, i32_w]; rfl
  refine pure_ (i := 9) (N := some 42) (v := ?_) (a' := ?_) (whd_lb 44 1023) rfl rfl (any_of HT_.out (by kernel_rfl)) (fun _ _ _ h => h) (Or.inl ⟨by rfl, ?_⟩) ?_ ?_; rotate_left
  · intro w'; go_simp; with_reducible rfl
  rotate_left
  · simp only [Act.put, List.setIfInBounds_toArray, List.set_cons_zero, List.set_cons_succ, i64_w, i32_w]; rfl
  refine pure_ (i := 10) (N := some 43) (v := ?_) (a' := ?_) (whd_lb 44 2047) rfl rfl (any_of HT_.out (by kernel_rfl)) (fun _ _ _ h => h) (Or.inl ⟨by rfl, ?_⟩) ?_ ?_; rotate_left
  · intro w'; go_simp; with_reducible rfl
  rotate_left
  · simp only [Act.put, List.setIfInBounds_toArray, List.set_cons_zero, List.set_cons_succ, i64_w, i32_w]; rfl
  refine pure_ (i := 11) (N := some 44) (v := ?_) (a' := ?_) (whd_lb 44 4095) rfl rfl (any_of HT_.out (by kernel_rfl)) (fun _ _ _ h => h) (Or.inl ⟨by rfl, ?_⟩) ?_ ?_; rotate_left
  · intro w'; go_simp; with_reducible rfl
  rotate_left
  · simp only [Act.put, List.setIfInBounds_toArray, List.set_cons_zero, List.set_cons_succ, i64_w, i32_w]; rfl
  refine pure_ (i := 12) (N := some 45) (v := ?_) (a' := ?_) (whd_lb 44 8191) rfl rfl (any_of HT_.out (by kernel_rfl)) (fun _ _ _ h => h) (Or.inl ⟨by rfl, ?_⟩) ?_ ?_; rotate_left
  · intro w'; go_simp; with_reducible rfl
  rotate_left
  · simp only [Act.put, List.setIfInBounds_toArray, List.set_cons_zero, List.set_cons_succ, i64_w, i32_w]; rfl
  refine one_ (i := 13) (N := some 46) (whd_lb 44 16383) rfl rfl (one_of HT_.out (by kernel_rfl)) (by decide) (fun K hK => ?_)
  refine goes_ Try.func22 (by kernel_rfl) rfl #[.pointer none, .int .u64 key] (by rfl) rfl rfl (by (try simp only [List.map_toArray, List.map_cons, List.map_nil]); first | done | rfl) ?_
  with_reducible refine (HN1.out _).mono ?_
  rintro e v13 ⟨rfl, hbk⟩
  refine ⟨_, rfl, ?_⟩
  have n_HA := Aside0.mk (HA.out.below hbk)
  have n_B8 := Aside0.mk (blk_below B8.out hbk)
  have n_HB := Aside0.mk (below_step HB.out hbk)
  clear HA B8 HB hbk
  have HA := n_HA
  have B8 := n_B8
  have HB := n_HB
  clear n_HA n_B8 n_HB
  refine hK.out _ _ ⟨((blk_cell B8.out 0).trans rfl), ((blk_cell B8.out 1).trans rfl), ((blk_cell B8.out 2).trans rfl), ((blk_cell B8.out 3).trans rfl), ((blk_cell B8.out 4).trans rfl), ((blk_cell B8.out 5).trans rfl), ((blk_cell B8.out 6).trans rfl), ((blk_cell B8.out 7).trans rfl), ((blk_cell B8.out 8).trans rfl), ((blk_cell B8.out 9).trans rfl), ((blk_cell B8.out 10).trans rfl), ((blk_cell B8.out 11).trans rfl), ((blk_cell B8.out 12).trans rfl), ((blk_cell B8.out 13).trans rfl), ((blk_cell B8.out 14).trans rfl), ((blk_cell B8.out 15).trans rfl), ((blk_cell B8.out 16).trans rfl)⟩ (fun hHeld => ?_)
  clear hK K
  refine norm_ (a' := ?_) ?_ ?_
  rotate_left
  · show Act.put _ (some 46) _ = _
    simp only [Act.put, List.setIfInBounds_toArray, List.set_cons_zero, List.set_cons_succ, i64_w, i32_w]
    rfl
  refine pure_ (i := 14) (N := some 47) (v := ?_) (a' := ?_) (whd_lb 44 32767) rfl rfl (any_of HT_.out (by kernel_rfl)) (fun _ _ _ h => h) (Or.inl ⟨by rfl, ?_⟩) ?_ ?_; rotate_left
  · intro w'; go_simp; with_reducible rfl
  rotate_left
  · simp only [Act.put, List.setIfInBounds_toArray, List.set_cons_zero, List.set_cons_succ, i64_w, i32_w]; rfl
  refine pure_ (i := 15) (N := some 48) (v := ?_) (a' := ?_) (whd_lb 44 65535) rfl rfl (any_of HT_.out (by kernel_rfl)) (fun _ _ _ h => h) (Or.inl ⟨by rfl, ?_⟩) ?_ ?_; rotate_left
  · intro w'; go_simp; with_reducible rfl
  rotate_left
  · simp only [Act.put, List.setIfInBounds_toArray, List.set_cons_zero, List.set_cons_succ, i64_w, i32_w]; rfl
  refine pure_ (i := 16) (N := some 49) (v := ?_) (a' := ?_) (whd_lb 44 131071) rfl rfl (any_of HT_.out (by kernel_rfl)) (fun _ _ _ h => h) (Or.inl ⟨by rfl, ?_⟩) ?_ ?_; rotate_left
  · intro w'; go_simp; with_reducible rfl
  rotate_left
  · simp only [Act.put, List.setIfInBounds_toArray, List.set_cons_zero, List.set_cons_succ, i64_w, i32_w]; rfl
  refine pure_ (i := 17) (N := some 50) (v := ?_) (a' := ?_) (whd_lb 44 262143) rfl rfl (any_of HT_.out (by kernel_rfl)) (fun _ _ _ h => h) (Or.inl ⟨by rfl, ?_⟩) ?_ ?_; rotate_left
  · intro w'; go_simp; with_reducible rfl
  rotate_left
  · simp only [Act.put, List.setIfInBounds_toArray, List.set_cons_zero, List.set_cons_succ, i64_w, i32_w]; rfl
  refine one_ (i := 18) (N := some 51) (whd_lb 44 524287) rfl rfl (one_of HT_.out (by kernel_rfl)) (by decide) (fun K hK => ?_)
  refine goes_ Try.func18 (by kernel_rfl) rfl #[.pointer none, .int .i64 1] (by rfl) rfl rfl (by (try simp only [List.map_toArray, List.map_cons, List.map_nil]); first | done | rfl) ?_
  with_reducible refine (wl_Next_nil 1 _).mono ?_
  rintro e v18 ⟨rfl, hbk⟩
  refine ⟨_, rfl, ?_⟩
  have n_HA := Aside0.mk (HA.out.below hbk)
  have n_B8 := Aside0.mk (blk_below B8.out hbk)
  have n_HB := Aside0.mk (below_step HB.out hbk)
  clear HA B8 HB hbk
  have HA := n_HA
  have B8 := n_B8
  have HB := n_HB
  clear n_HA n_B8 n_HB
  refine hK.out _ _ ⟨((blk_cell B8.out 0).trans rfl), ((blk_cell B8.out 1).trans rfl), ((blk_cell B8.out 2).trans rfl), ((blk_cell B8.out 3).trans rfl), ((blk_cell B8.out 4).trans rfl), ((blk_cell B8.out 5).trans rfl), ((blk_cell B8.out 6).trans rfl), ((blk_cell B8.out 7).trans rfl), ((blk_cell B8.out 8).trans rfl), ((blk_cell B8.out 9).trans rfl), ((blk_cell B8.out 10).trans rfl), ((blk_cell B8.out 11).trans rfl), ((blk_cell B8.out 12).trans rfl), ((blk_cell B8.out 13).trans rfl), ((blk_cell B8.out 14).trans rfl), ((blk_cell B8.out 15).trans rfl), ((blk_cell B8.out 16).trans rfl)⟩ (fun hHeld => ?_)
  clear hK K
  refine norm_ (a' := ?_) ?_ ?_
  rotate_left
  · show Act.put _ (some 51) _ = _
    simp only [Act.put, List.setIfInBounds_toArray, List.set_cons_zero, List.set_cons_succ, i64_w, i32_w]
    rfl
  refine pure_ (i := 19) (N := some 52) (v := ?_) (a' := ?_) (whd_lb 44 1048575) rfl rfl (any_of HT_.out (by kernel_rfl)) (fun _ _ _ h => h) (Or.inl ⟨by rfl, ?_⟩) ?_ ?_; rotate_left
  · intro w'; go_simp; with_reducible rfl
  rotate_left
  · simp only [Act.put, List.setIfInBounds_toArray, List.set_cons_zero, List.set_cons_succ, i64_w, i32_w]; rfl
  refine pure_ (i := 20) (N := some 53) (v := ?_) (a' := ?_) (whd_lb 44 2097151) rfl rfl (any_of HT_.out (by kernel_rfl)) (fun _ _ _ h => h) (Or.inl ⟨by rfl, ?_⟩) ?_ ?_; rotate_left
  · intro w'; go_simp; with_reducible rfl
  rotate_left
  · simp only [Act.put, List.setIfInBounds_toArray, List.set_cons_zero, List.set_cons_succ, i64_w, i32_w]; rfl
  refine pure_ (i := 21) (N := some 54) (v := ?_) (a' := ?_) (whd_lb 44 4194303) rfl rfl (any_of HT_.out (by kernel_rfl)) (fun _ _ _ h => h) (Or.inl ⟨by rfl, ?_⟩) ?_ ?_; rotate_left
  · intro w'; go_simp; with_reducible rfl
  rotate_left
  · simp only [Act.put, List.setIfInBounds_toArray, List.set_cons_zero, List.set_cons_succ, i64_w, i32_w]; rfl
  refine pure_ (i := 22) (N := some 55) (v := ?_) (a' := ?_) (whd_lb 44 8388607) rfl rfl (any_of HT_.out (by kernel_rfl)) (fun _ _ _ h => h) (Or.inl ⟨by rfl, ?_⟩) ?_ ?_; rotate_left
  · intro w'; go_simp; with_reducible rfl
  rotate_left
  · simp only [Act.put, List.setIfInBounds_toArray, List.set_cons_zero, List.set_cons_succ, i64_w, i32_w]; rfl
  refine pure_ (i := 23) (N := some 56) (v := ?_) (a' := ?_) (whd_lb 44 16777215) rfl rfl (any_of HT_.out (by kernel_rfl)) (fun _ _ _ h => h) (Or.inl ⟨by rfl, ?_⟩) ?_ ?_; rotate_left
  · intro w'; go_simp; with_reducible rfl
  rotate_left
  · simp only [Act.put, List.setIfInBounds_toArray, List.set_cons_zero, List.set_cons_succ, i64_w, i32_w]; rfl
  refine one_ (i := 24) (N := some 57) (whd_lb 44 33554431) rfl rfl (one_of HT_.out (by kernel_rfl)) (by decide) (fun K hK => ?_)
  refine goes_ Try.func24 (by kernel_rfl) rfl #[.pointer none, .int .i64 1, .int .u64 0, .int .u64 key] (by rfl) rfl rfl (by (try simp only [List.map_toArray, List.map_cons, List.map_nil]); first | done | rfl) ?_
  with_reducible refine (wl_Link_nil 1 0 key _).mono ?_
  rintro e v24 ⟨rfl, hbk⟩
  refine ⟨_, rfl, ?_⟩
  have n_HA := Aside0.mk (HA.out.below hbk)
  have n_B8 := Aside0.mk (blk_below B8.out hbk)
  have n_HB := Aside0.mk (below_step HB.out hbk)
  clear HA B8 HB hbk
  have HA := n_HA
  have B8 := n_B8
  have HB := n_HB
  clear n_HA n_B8 n_HB
  refine hK.out _ _ ⟨((blk_cell B8.out 0).trans rfl), ((blk_cell B8.out 1).trans rfl), ((blk_cell B8.out 2).trans rfl), ((blk_cell B8.out 3).trans rfl), ((blk_cell B8.out 4).trans rfl), ((blk_cell B8.out 5).trans rfl), ((blk_cell B8.out 6).trans rfl), ((blk_cell B8.out 7).trans rfl), ((blk_cell B8.out 8).trans rfl), ((blk_cell B8.out 9).trans rfl), ((blk_cell B8.out 10).trans rfl), ((blk_cell B8.out 11).trans rfl), ((blk_cell B8.out 12).trans rfl), ((blk_cell B8.out 13).trans rfl), ((blk_cell B8.out 14).trans rfl), ((blk_cell B8.out 15).trans rfl), ((blk_cell B8.out 16).trans rfl)⟩ (fun hHeld => ?_)
  clear hK K
  refine norm_ (a' := ?_) ?_ ?_
  rotate_left
  · show Act.put _ (some 57) _ = _
    simp only [Act.put, List.setIfInBounds_toArray, List.set_cons_zero, List.set_cons_succ, i64_w, i32_w]
    rfl
  refine pure_ (i := 25) (N := some 58) (v := ?_) (a' := ?_) (whd_lb 44 67108863) rfl rfl (any_of HT_.out (by kernel_rfl)) (fun _ _ _ h => h) (Or.inl ⟨by rfl, ?_⟩) ?_ ?_; rotate_left
  · intro w'; go_simp; with_reducible rfl
  rotate_left
  · simp only [Act.put, List.setIfInBounds_toArray, List.set_cons_zero, List.set_cons_succ, i64_w, i32_w]; rfl
  refine pure_ (i := 26) (N := some 59) (v := ?_) (a' := ?_) (whd_lb 44 134217727) rfl rfl (any_of HT_.out (by kernel_rfl)) (fun _ _ _ h => h) (Or.inl ⟨by rfl, ?_⟩) ?_ ?_; rotate_left
  · intro w'; go_simp; with_reducible rfl
  rotate_left
  · simp only [Act.put, List.setIfInBounds_toArray, List.set_cons_zero, List.set_cons_succ, i64_w, i32_w]; rfl
  refine pure_ (i := 27) (N := some 60) (v := ?_) (a' := ?_) (whd_lb 44 268435455) rfl rfl (any_of HT_.out (by kernel_rfl)) (fun _ _ _ h => h) (Or.inl ⟨by rfl, ?_⟩) ?_ ?_; rotate_left
  · intro w'; go_simp; with_reducible rfl
  rotate_left
  · simp only [Act.put, List.setIfInBounds_toArray, List.set_cons_zero, List.set_cons_succ, i64_w, i32_w]; rfl
  refine pure_ (i := 28) (N := some 61) (v := ?_) (a' := ?_) (whd_lb 44 536870911) rfl rfl (any_of HT_.out (by kernel_rfl)) (fun _ _ _ h => h) (Or.inl ⟨by rfl, ?_⟩) ?_ ?_; rotate_left
  · intro w'; go_simp; with_reducible rfl
  rotate_left
  · simp only [Act.put, List.setIfInBounds_toArray, List.set_cons_zero, List.set_cons_succ, i64_w, i32_w]; rfl
  refine one_ (i := 29) (N := some 62) (whd_lb 44 1073741823) rfl rfl (one_of HT_.out (by kernel_rfl)) (by decide) (fun K hK => ?_)
  refine goes_ Try.func19 (by kernel_rfl) rfl #[.pointer none, .int .i64 0] (by rfl) rfl rfl (by (try simp only [List.map_toArray, List.map_cons, List.map_nil]); first | done | rfl) ?_
  with_reducible refine (wl_Word_nil 0 _).mono ?_
  rintro e v29 ⟨rfl, hbk⟩
  refine ⟨_, rfl, ?_⟩
  have n_HA := Aside0.mk (HA.out.below hbk)
  have n_B8 := Aside0.mk (blk_below B8.out hbk)
  have n_HB := Aside0.mk (below_step HB.out hbk)
  clear HA B8 HB hbk
  have HA := n_HA
  have B8 := n_B8
  have HB := n_HB
  clear n_HA n_B8 n_HB
  refine hK.out _ _ ⟨((blk_cell B8.out 0).trans rfl), ((blk_cell B8.out 1).trans rfl), ((blk_cell B8.out 2).trans rfl), ((blk_cell B8.out 3).trans rfl), ((blk_cell B8.out 4).trans rfl), ((blk_cell B8.out 5).trans rfl), ((blk_cell B8.out 6).trans rfl), ((blk_cell B8.out 7).trans rfl), ((blk_cell B8.out 8).trans rfl), ((blk_cell B8.out 9).trans rfl), ((blk_cell B8.out 10).trans rfl), ((blk_cell B8.out 11).trans rfl), ((blk_cell B8.out 12).trans rfl), ((blk_cell B8.out 13).trans rfl), ((blk_cell B8.out 14).trans rfl), ((blk_cell B8.out 15).trans rfl), ((blk_cell B8.out 16).trans rfl)⟩ (fun hHeld => ?_)
  clear hK K
  refine norm_ (a' := ?_) ?_ ?_
  rotate_left
  · show Act.put _ (some 62) _ = _
    simp only [Act.put, List.setIfInBounds_toArray, List.set_cons_zero, List.set_cons_succ, i64_w, i32_w]
    rfl
  refine pure_ (i := 30) (N := some 63) (v := ?_) (a' := ?_) (whd_lb 44 2147483647) rfl rfl (any_of HT_.out (by kernel_rfl)) (fun _ _ _ h => h) (Or.inl ⟨by rfl, ?_⟩) ?_ ?_; rotate_left
  · intro w'; go_simp; with_reducible rfl
  rotate_left
  · simp only [Act.put, List.setIfInBounds_toArray, List.set_cons_zero, List.set_cons_succ, i64_w, i32_w]; rfl
  refine pure_ (i := 31) (N := some 64) (v := ?_) (a' := ?_) (whd_lb 44 4294967295) rfl rfl (any_of HT_.out (by kernel_rfl)) (fun _ _ _ h => h) (Or.inl ⟨by rfl, ?_⟩) ?_ ?_; rotate_left
  · intro w'; go_simp; with_reducible rfl
  rotate_left
  · simp only [Act.put, List.setIfInBounds_toArray, List.set_cons_zero, List.set_cons_succ, i64_w, i32_w]; rfl
  refine pure_ (i := 32) (N := some 65) (v := ?_) (a' := ?_) (whd_lb 44 8589934591) rfl rfl (any_of HT_.out (by kernel_rfl)) (fun _ _ _ h => h) (Or.inl ⟨by rfl, ?_⟩) ?_ ?_; rotate_left
  · intro w'; go_simp; with_reducible rfl
  rotate_left
  · simp only [Act.put, List.setIfInBounds_toArray, List.set_cons_zero, List.set_cons_succ, i64_w, i32_w]; rfl
  refine pure_ (i := 33) (N := some 66) (v := ?_) (a' := ?_) (whd_lb 44 17179869183) rfl rfl (any_of HT_.out (by kernel_rfl)) (fun _ _ _ h => h) (Or.inl ⟨by rfl, ?_⟩) ?_ ?_; rotate_left
  · intro w'; go_simp; with_reducible rfl
  rotate_left
  · simp only [Act.put, List.setIfInBounds_toArray, List.set_cons_zero, List.set_cons_succ, i64_w, i32_w]; rfl
  refine pure_ (i := 34) (N := some 67) (v := ?_) (a' := ?_) (whd_lb 44 34359738367) rfl rfl (any_of HT_.out (by kernel_rfl)) (fun _ _ _ h => h) (Or.inl ⟨by rfl, ?_⟩) ?_ ?_; rotate_left
  · intro w'; go_simp; with_reducible rfl
  rotate_left
  · simp only [Act.put, List.setIfInBounds_toArray, List.set_cons_zero, List.set_cons_succ, i64_w, i32_w]; rfl
  refine one_ (i := 35) (N := some 68) (whd_lb 44 68719476735) rfl rfl (one_of HT_.out (by kernel_rfl)) (by decide) (fun K hK => ?_)
  refine goes_ Try.func16 (by kernel_rfl) rfl #[.pointer none, .int .i64 0, .int .u64 0, .int .u64 key] (by rfl) rfl rfl (by (try simp only [List.map_toArray, List.map_cons, List.map_nil]); first | done | rfl) ?_
  with_reducible refine (wl_Turn_nil 0 0 key _).mono ?_
  rintro e v35 ⟨rfl, hbk⟩
  refine ⟨_, rfl, ?_⟩
  have n_HA := Aside0.mk (HA.out.below hbk)
  have n_B8 := Aside0.mk (blk_below B8.out hbk)
  have n_HB := Aside0.mk (below_step HB.out hbk)
  clear HA B8 HB hbk
  have HA := n_HA
  have B8 := n_B8
  have HB := n_HB
  clear n_HA n_B8 n_HB
  refine hK.out _ _ ⟨((blk_cell B8.out 0).trans rfl), ((blk_cell B8.out 1).trans rfl), ((blk_cell B8.out 2).trans rfl), ((blk_cell B8.out 3).trans rfl), ((blk_cell B8.out 4).trans rfl), ((blk_cell B8.out 5).trans rfl), ((blk_cell B8.out 6).trans rfl), ((blk_cell B8.out 7).trans rfl), ((blk_cell B8.out 8).trans rfl), ((blk_cell B8.out 9).trans rfl), ((blk_cell B8.out 10).trans rfl), ((blk_cell B8.out 11).trans rfl), ((blk_cell B8.out 12).trans rfl), ((blk_cell B8.out 13).trans rfl), ((blk_cell B8.out 14).trans rfl), ((blk_cell B8.out 15).trans rfl), ((blk_cell B8.out 16).trans rfl)⟩ (fun hHeld => ?_)
  clear hK K
  refine norm_ (a' := ?_) ?_ ?_
  rotate_left
  · show Act.put _ (some 68) _ = _
    simp only [Act.put, List.setIfInBounds_toArray, List.set_cons_zero, List.set_cons_succ, i64_w, i32_w]
    rfl
  refine pure_ (i := 36) (N := some 69) (v := ?_) (a' := ?_) (whd_lb 44 137438953471) rfl rfl (any_of HT_.out (by kernel_rfl)) (fun _ _ _ h => h) (Or.inl ⟨by rfl, ?_⟩) ?_ ?_; rotate_left
  · intro w'; go_simp; with_reducible rfl
  rotate_left
  · simp only [Act.put, List.setIfInBounds_toArray, List.set_cons_zero, List.set_cons_succ, i64_w, i32_w]; rfl
  refine pure_ (i := 37) (N := some 70) (v := ?_) (a' := ?_) (whd_lb 44 274877906943) rfl rfl (any_of HT_.out (by kernel_rfl)) (fun _ _ _ h => h) (Or.inl ⟨by rfl, ?_⟩) ?_ ?_; rotate_left
  · intro w'; go_simp; with_reducible rfl
  rotate_left
  · simp only [Act.put, List.setIfInBounds_toArray, List.set_cons_zero, List.set_cons_succ, i64_w, i32_w]; rfl
  refine pure_ (i := 38) (N := some 71) (v := ?_) (a' := ?_) (whd_lb 44 549755813887) rfl rfl (any_of HT_.out (by kernel_rfl)) (fun _ _ _ h => h) (Or.inl ⟨by rfl, ?_⟩) ?_ ?_; rotate_left
  · intro w'; go_simp; with_reducible rfl
  rotate_left
  · simp only [Act.put, List.setIfInBounds_toArray, List.set_cons_zero, List.set_cons_succ, i64_w, i32_w]; rfl
  refine pure_ (i := 39) (N := some 72) (v := ?_) (a' := ?_) (whd_lb 44 1099511627775) rfl rfl (any_of HT_.out (by kernel_rfl)) (fun _ _ _ h => h) (Or.inl ⟨by rfl, ?_⟩) ?_ ?_; rotate_left
  · intro w'; go_simp; with_reducible rfl
  rotate_left
  · simp only [Act.put, List.setIfInBounds_toArray, List.set_cons_zero, List.set_cons_succ, i64_w, i32_w]; rfl
  refine one_ (i := 40) (N := some 73) (whd_lb 44 2199023255551) rfl rfl (one_of HT_.out (by kernel_rfl)) (by decide) (fun K hK => ?_)
  refine goes_ Try.func20 (by kernel_rfl) rfl #[.pointer none, .int .i64 0] (by rfl) rfl rfl (by (try simp only [List.map_toArray, List.map_cons, List.map_nil]); first | done | rfl) ?_
  with_reducible refine (wl_Ann_nil 0 _).mono ?_
  rintro e v40 ⟨rfl, hbk⟩
  refine ⟨_, rfl, ?_⟩
  have n_HA := Aside0.mk (HA.out.below hbk)
  have n_B8 := Aside0.mk (blk_below B8.out hbk)
  have n_HB := Aside0.mk (below_step HB.out hbk)
  clear HA B8 HB hbk
  have HA := n_HA
  have B8 := n_B8
  have HB := n_HB
  clear n_HA n_B8 n_HB
  refine hK.out _ _ ⟨((blk_cell B8.out 0).trans rfl), ((blk_cell B8.out 1).trans rfl), ((blk_cell B8.out 2).trans rfl), ((blk_cell B8.out 3).trans rfl), ((blk_cell B8.out 4).trans rfl), ((blk_cell B8.out 5).trans rfl), ((blk_cell B8.out 6).trans rfl), ((blk_cell B8.out 7).trans rfl), ((blk_cell B8.out 8).trans rfl), ((blk_cell B8.out 9).trans rfl), ((blk_cell B8.out 10).trans rfl), ((blk_cell B8.out 11).trans rfl), ((blk_cell B8.out 12).trans rfl), ((blk_cell B8.out 13).trans rfl), ((blk_cell B8.out 14).trans rfl), ((blk_cell B8.out 15).trans rfl), ((blk_cell B8.out 16).trans rfl)⟩ (fun hHeld => ?_)
  clear hK K
  refine norm_ (a' := ?_) ?_ ?_
  rotate_left
  · show Act.put _ (some 73) _ = _
    simp only [Act.put, List.setIfInBounds_toArray, List.set_cons_zero, List.set_cons_succ, i64_w, i32_w]
    rfl
  refine pure_ (i := 41) (N := some 74) (v := ?_) (a' := ?_) (whd_lb 44 4398046511103) rfl rfl (any_of HT_.out (by kernel_rfl)) (fun _ _ _ h => h) (Or.inl ⟨by rfl, ?_⟩) ?_ ?_; rotate_left
  · intro w'; go_simp; with_reducible rfl
  rotate_left
  · simp only [Act.put, List.setIfInBounds_toArray, List.set_cons_zero, List.set_cons_succ, i64_w, i32_w]; rfl
  refine pure_ (i := 42) (N := some 75) (v := ?_) (a' := ?_) (whd_lb 44 8796093022207) rfl rfl (any_of HT_.out (by kernel_rfl)) (fun _ _ _ h => h) (Or.inl ⟨by rfl, ?_⟩) ?_ ?_; rotate_left
  · intro w'; go_simp; with_reducible rfl
  rotate_left
  · simp only [Act.put, List.setIfInBounds_toArray, List.set_cons_zero, List.set_cons_succ, i64_w, i32_w]; rfl
  refine pure_ (i := 43) (N := some 4) (v := ?_) (a' := ?_) (whd_lb 44 17592186044415) rfl rfl (any_of HT_.out (by kernel_rfl)) (fun _ _ _ h => h) (Or.inl ⟨by rfl, ?_⟩) ?_ ?_; rotate_left
  · intro w'; go_simp; with_reducible rfl
  rotate_left
  · simp only [Act.put, List.setIfInBounds_toArray, List.set_cons_zero, List.set_cons_succ, i64_w, i32_w]; rfl
  refine done_ (done_of HT_.out (by kernel_rfl)) ?_
  go_wp2
  go_ret
  exact ⟨by first | rfl | (simp [*]; done), HB.out⟩


end Go.Proofs.Ytpcmoclohepdiag.PWorldHeads
