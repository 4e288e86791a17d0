-- Written by a program of this session: a variant of the print that takes proofs by hand (wip/tools/mkprint.py)
import Derived.Test.YtahifbdggbeajabPMergeAllx0
import Derived.Test.YtahifbdggbeajabPMergeAllx1
import Derived.Test.YtahifbdggbeajabPMergeAllx2
namespace Go.Proofs.Ytahifbdggbeajab.PMergeAll
open Go.RowKit Go.Proofs.YtahifbdggbeajabW.PrintWords Go.Proofs.YtahifbdggbeajabW.PrintLast Go.Proofs.YtahifbdggbeajabW.PrintMore
attribute [local go_sem] max2_int min2_int max_two min_two max_three min_three max_four min_four   -- for this text's walks alone
set_option linter.unusedVariables false
set_option linter.unusedSimpArgs false

attribute [local go_sem high] eqA32
/-! ### corrielaw17_awake: function 8 -/
def corrielaw17_awake.f (k : Nat)  : Option (Bool) := (some (([(([(⟨1, 0⟩ : S32), (⟨4, 0⟩ : S32)] : List (S32))), (([(⟨2, 0⟩ : S32), (⟨3, 0⟩ : S32)] : List (S32)))] : List (List (S32))) : List (List (S32)))).bind fun y109 => ((merge_Pairs.f y109 9).bind fun t112 => ((merge_Pairs.f y109 2).bind fun t115 => (if (t112.length : Int) = 4 then (if 1 < (t112.length : Int) then (if ((rd_T32 t112 1).f0) = 2 then (if 3 < (t112.length : Int) then (if ((rd_T32 t112 3).f0) = 4 then (if (t115.length : Int) = 2 then (if 1 < (t115.length : Int) then (if ((rd_T32 t115 1).f0) = 2 then ((merge_Rises.f k t112).bind fun t121 => (if t121 = true then ((merge_Rises.f k (([(⟨0, 0⟩ : S32), (⟨0, 0⟩ : S32)] : List (S32)))).bind fun t125 => (if t125 = true then (some false) else ((merge_Pairs.f y109 (-1)).bind fun t126 => (some ((t126.length : Int) == 0))))) else (some false))) else (some false)) else (none)) else (some false)) else (some false)) else (none)) else (some false)) else (none)) else (some false))))
theorem corrielaw17_awake.mono : ∀ k, LeO (corrielaw17_awake.f k ) (corrielaw17_awake.f (k + 1) ) := by
  intro  k
  unfold corrielaw17_awake.f
  repeat' first
      | (with_reducible exact merge_Rises.mono _ _)
      | (with_reducible exact LeO.refl _)
      | (with_reducible exact LeO.none _)
      | (with_reducible refine LeO.ite ?_ ?_)
      | (with_reducible refine LeO.bind ?_ (fun _ => ?_))
      | exact merge_Rises.mono _ _
      | exact LeO.none _
      | refine LeO.ite ?_ ?_
      | refine LeO.bind ?_ (fun _ => ?_)
set_option maxHeartbeats 8000000 in
set_option maxRecDepth 100000 in
theorem corrielaw17_awake.calls (k : Nat)  (r : Bool) (w : World) (h : corrielaw17_awake.f k  = some r) :
    Calls Try.prog 8 #[] w fun e w' => e = .returned (.bool r) ∧ Below w.heap.size w w' := by
  have hu32 := Try.underlying32
  have HB := Aside0.mk (Below.refl w.heap.size w)
  have H : ((some (([(([(⟨1, 0⟩ : S32), (⟨4, 0⟩ : S32)] : List (S32))), (([(⟨2, 0⟩ : S32), (⟨3, 0⟩ : S32)] : List (S32)))] : List (List (S32))) : List (List (S32)))).bind fun y109 => ((merge_Pairs.f y109 9).bind fun t112 => ((merge_Pairs.f y109 2).bind fun t115 => (if (t112.length : Int) = 4 then (if 1 < (t112.length : Int) then (if ((rd_T32 t112 1).f0) = 2 then (if 3 < (t112.length : Int) then (if ((rd_T32 t112 3).f0) = 4 then (if (t115.length : Int) = 2 then (if 1 < (t115.length : Int) then (if ((rd_T32 t115 1).f0) = 2 then ((merge_Rises.f k t112).bind fun t121 => (if t121 = true then ((merge_Rises.f k (([(⟨0, 0⟩ : S32), (⟨0, 0⟩ : S32)] : List (S32)))).bind fun t125 => (if t125 = true then (some false) else ((merge_Pairs.f y109 (-1)).bind fun t126 => (some ((t126.length : Int) == 0))))) else (some false))) else (some false)) else (none)) else (some false)) else (some false)) else (none)) else (some false)) else (none)) else (some false))))) = some r := h
  clear h
  obtain ⟨y103, hy103⟩ : ∃ y_ : List (S32), y_ = (([(⟨1, 0⟩ : S32), (⟨4, 0⟩ : S32)] : List (S32))) := ⟨_, rfl⟩
  replace H : ((some (([y103, (([(⟨2, 0⟩ : S32), (⟨3, 0⟩ : S32)] : List (S32)))] : List (List (S32))) : List (List (S32)))).bind fun y109 => ((merge_Pairs.f y109 9).bind fun t112 => ((merge_Pairs.f y109 2).bind fun t115 => (if (t112.length : Int) = 4 then (if 1 < (t112.length : Int) then (if ((rd_T32 t112 1).f0) = 2 then (if 3 < (t112.length : Int) then (if ((rd_T32 t112 3).f0) = 4 then (if (t115.length : Int) = 2 then (if 1 < (t115.length : Int) then (if ((rd_T32 t115 1).f0) = 2 then ((merge_Rises.f k t112).bind fun t121 => (if t121 = true then ((merge_Rises.f k (([(⟨0, 0⟩ : S32), (⟨0, 0⟩ : S32)] : List (S32)))).bind fun t125 => (if t125 = true then (some false) else ((merge_Pairs.f y109 (-1)).bind fun t126 => (some ((t126.length : Int) == 0))))) else (some false))) else (some false)) else (none)) else (some false)) else (some false)) else (none)) else (some false)) else (none)) else (some false))))) = some r := by first | (rw [hy103]; with_reducible exact H) | (have H2_ := (Option.bind_some _ _).symm.trans H; rw [hy103]; with_reducible exact H2_) | (have H2_ := (Option.bind_some _ _).symm.trans H; with_reducible exact H2_) | with_reducible exact H | (rw [hy103]; exact H) | exact H
  have Ny103 := Aside0.mk hy103
  clear hy103
  obtain ⟨y106, hy106⟩ : ∃ y_ : List (S32), y_ = (([(⟨2, 0⟩ : S32), (⟨3, 0⟩ : S32)] : List (S32))) := ⟨_, rfl⟩
  replace H : ((some (([y103, y106] : List (List (S32))) : List (List (S32)))).bind fun y109 => ((merge_Pairs.f y109 9).bind fun t112 => ((merge_Pairs.f y109 2).bind fun t115 => (if (t112.length : Int) = 4 then (if 1 < (t112.length : Int) then (if ((rd_T32 t112 1).f0) = 2 then (if 3 < (t112.length : Int) then (if ((rd_T32 t112 3).f0) = 4 then (if (t115.length : Int) = 2 then (if 1 < (t115.length : Int) then (if ((rd_T32 t115 1).f0) = 2 then ((merge_Rises.f k t112).bind fun t121 => (if t121 = true then ((merge_Rises.f k (([(⟨0, 0⟩ : S32), (⟨0, 0⟩ : S32)] : List (S32)))).bind fun t125 => (if t125 = true then (some false) else ((merge_Pairs.f y109 (-1)).bind fun t126 => (some ((t126.length : Int) == 0))))) else (some false))) else (some false)) else (none)) else (some false)) else (some false)) else (none)) else (some false)) else (none)) else (some false))))) = some r := by first | (rw [hy106]; with_reducible exact H) | (have H2_ := (Option.bind_some _ _).symm.trans H; rw [hy106]; with_reducible exact H2_) | (have H2_ := (Option.bind_some _ _).symm.trans H; with_reducible exact H2_) | with_reducible exact H | (rw [hy106]; exact H) | exact H
  have Ny106 := Aside0.mk hy106
  clear hy106
  obtain ⟨y109, hy109⟩ : ∃ y_ : List (List (S32)), y_ = (([y103, y106] : List (List (S32)))) := ⟨_, rfl⟩
  replace H : ((merge_Pairs.f y109 9).bind fun t112 => ((merge_Pairs.f y109 2).bind fun t115 => (if (t112.length : Int) = 4 then (if 1 < (t112.length : Int) then (if ((rd_T32 t112 1).f0) = 2 then (if 3 < (t112.length : Int) then (if ((rd_T32 t112 3).f0) = 4 then (if (t115.length : Int) = 2 then (if 1 < (t115.length : Int) then (if ((rd_T32 t115 1).f0) = 2 then ((merge_Rises.f k t112).bind fun t121 => (if t121 = true then ((merge_Rises.f k (([(⟨0, 0⟩ : S32), (⟨0, 0⟩ : S32)] : List (S32)))).bind fun t125 => (if t125 = true then (some false) else ((merge_Pairs.f y109 (-1)).bind fun t126 => (some ((t126.length : Int) == 0))))) else (some false))) else (some false)) else (none)) else (some false)) else (some false)) else (none)) else (some false)) else (none)) else (some false)))) = some r := by first | (rw [hy109]; with_reducible exact H) | (have H2_ := (Option.bind_some _ _).symm.trans H; rw [hy109]; with_reducible exact H2_) | (have H2_ := (Option.bind_some _ _).symm.trans H; with_reducible exact H2_) | with_reducible exact H | (rw [hy109]; exact H) | exact H
  have Ny109 := Aside0.mk hy109
  clear hy109
  replace H := Option.bind_eq_some_iff.mp H
  obtain ⟨t112, A10, H⟩ := H
  replace H : ((merge_Pairs.f y109 2).bind fun t115 => (if (t112.length : Int) = 4 then (if 1 < (t112.length : Int) then (if ((rd_T32 t112 1).f0) = 2 then (if 3 < (t112.length : Int) then (if ((rd_T32 t112 3).f0) = 4 then (if (t115.length : Int) = 2 then (if 1 < (t115.length : Int) then (if ((rd_T32 t115 1).f0) = 2 then ((merge_Rises.f k t112).bind fun t121 => (if t121 = true then ((merge_Rises.f k (([(⟨0, 0⟩ : S32), (⟨0, 0⟩ : S32)] : List (S32)))).bind fun t125 => (if t125 = true then (some false) else ((merge_Pairs.f y109 (-1)).bind fun t126 => (some ((t126.length : Int) == 0))))) else (some false))) else (some false)) else (none)) else (some false)) else (some false)) else (none)) else (some false)) else (none)) else (some false))) = some r := H
  have A1 := Aside0.mk A10
  clear A10
  replace H := Option.bind_eq_some_iff.mp H
  obtain ⟨t115, A20, H⟩ := H
  replace H : (if (t112.length : Int) = 4 then (if 1 < (t112.length : Int) then (if ((rd_T32 t112 1).f0) = 2 then (if 3 < (t112.length : Int) then (if ((rd_T32 t112 3).f0) = 4 then (if (t115.length : Int) = 2 then (if 1 < (t115.length : Int) then (if ((rd_T32 t115 1).f0) = 2 then ((merge_Rises.f k t112).bind fun t121 => (if t121 = true then ((merge_Rises.f k (([(⟨0, 0⟩ : S32), (⟨0, 0⟩ : S32)] : List (S32)))).bind fun t125 => (if t125 = true then (some false) else ((merge_Pairs.f y109 (-1)).bind fun t126 => (some ((t126.length : Int) == 0))))) else (some false))) else (some false)) else (none)) else (some false)) else (some false)) else (none)) else (some false)) else (none)) else (some false)) = some r := H
  have A2 := Aside0.mk A20
  clear A20
  by_cases c3 : (t112.length : Int) = 4
  · rw [if_pos c3] at H
    have c3b0 : ((t112.length : Int) == 4) = true := beq_iff_eq.mpr c3
    have c3b1 : ((t112.length : Int) != 4) = false := bne_eq_false_iff_eq.mpr c3
    clear c3
    by_cases c4 : 1 < (t112.length : Int)
    · rw [if_pos c4] at H
      have c4b0 : decide (1 < (t112.length : Int)) = true := decide_eq_true c4
      have c4b1 : decide (1 < t112.length) = true := decide_eq_true (by omega)
      clear c4
      by_cases c5 : ((rd_T32 t112 1).f0) = 2
      · rw [if_pos c5] at H
        have c5b0 : (((rd_T32 t112 1).f0) == 2) = true := beq_iff_eq.mpr c5
        have c5b1 : (((rd_T32 t112 1).f0) != 2) = false := bne_eq_false_iff_eq.mpr c5
        clear c5
        by_cases c6 : 3 < (t112.length : Int)
        · rw [if_pos c6] at H
          have c6b0 : decide (3 < (t112.length : Int)) = true := decide_eq_true c6
          have c6b1 : decide (3 < t112.length) = true := decide_eq_true (by omega)
          clear c6
          by_cases c7 : ((rd_T32 t112 3).f0) = 4
          · rw [if_pos c7] at H
            have c7b0 : (((rd_T32 t112 3).f0) == 4) = true := beq_iff_eq.mpr c7
            have c7b1 : (((rd_T32 t112 3).f0) != 4) = false := bne_eq_false_iff_eq.mpr c7
            clear c7
            by_cases c8 : (t115.length : Int) = 2
            · rw [if_pos c8] at H
              have c8b0 : ((t115.length : Int) == 2) = true := beq_iff_eq.mpr c8
              have c8b1 : ((t115.length : Int) != 2) = false := bne_eq_false_iff_eq.mpr c8
              clear c8
              by_cases c9 : 1 < (t115.length : Int)
              · rw [if_pos c9] at H
                have c9b0 : decide (1 < (t115.length : Int)) = true := decide_eq_true c9
                have c9b1 : decide (1 < t115.length) = true := decide_eq_true (by omega)
                clear c9
                by_cases c10 : ((rd_T32 t115 1).f0) = 2
                · rw [if_pos c10] at H
                  have c10b0 : (((rd_T32 t115 1).f0) == 2) = true := beq_iff_eq.mpr c10
                  have c10b1 : (((rd_T32 t115 1).f0) != 2) = false := bne_eq_false_iff_eq.mpr c10
                  clear c10
                  replace H := Option.bind_eq_some_iff.mp H
                  obtain ⟨t121, A110, H⟩ := H
                  replace H : (if t121 = true then ((merge_Rises.f k (([(⟨0, 0⟩ : S32), (⟨0, 0⟩ : S32)] : List (S32)))).bind fun t125 => (if t125 = true then (some false) else ((merge_Pairs.f y109 (-1)).bind fun t126 => (some ((t126.length : Int) == 0))))) else (some false)) = some r := H
                  have A11 := Aside0.mk A110
                  clear A110
                  by_cases c12 : t121 = true
                  · subst c12
                    have H1 : ((merge_Rises.f k (([(⟨0, 0⟩ : S32), (⟨0, 0⟩ : S32)] : List (S32)))).bind fun t125 => (if t125 = true then (some false) else ((merge_Pairs.f y109 (-1)).bind fun t126 => (some ((t126.length : Int) == 0))))) = some r := by rw [if_pos rfl] at H; exact H
                    clear H
                    have H := H1
                    clear H1
                    obtain ⟨y122, hy122⟩ : ∃ y_ : List (S32), y_ = (([(⟨0, 0⟩ : S32), (⟨0, 0⟩ : S32)] : List (S32))) := ⟨_, rfl⟩
                    replace H : ((merge_Rises.f k y122).bind fun t125 => (if t125 = true then (some false) else ((merge_Pairs.f y109 (-1)).bind fun t126 => (some ((t126.length : Int) == 0))))) = some r := by first | (rw [hy122]; with_reducible exact H) | (have H2_ := (Option.bind_some _ _).symm.trans H; rw [hy122]; with_reducible exact H2_) | (have H2_ := (Option.bind_some _ _).symm.trans H; with_reducible exact H2_) | with_reducible exact H | (rw [hy122]; exact H) | exact H
                    have Ny122 := Aside0.mk hy122
                    clear hy122
                    replace H := Option.bind_eq_some_iff.mp H
                    obtain ⟨t125, A130, H⟩ := H
                    replace H : (if t125 = true then (some false) else ((merge_Pairs.f y109 (-1)).bind fun t126 => (some ((t126.length : Int) == 0)))) = some r := H
                    have A13 := Aside0.mk A130
                    clear A130
                    by_cases c14 : t125 = true
                    · subst c14
                      have H1 : (some false) = some r := by rw [if_pos rfl] at H; exact H
                      clear H
                      have H := H1
                      clear H1
                      obtain rfl := Option.some.inj H
                      go_enter Try.func8, Try.ntmps8
                      go_wp2_with (first | ((with_reducible refine gate_dst (N := 6) rfl ?_); (try (refine gate_guard (by rfl) ?_; dsimp only)); refine Kd.R_lit k32 _ 32 ?hg (N := 6) ?hd (xs := ([(⟨1, 0⟩ : S32), (⟨4, 0⟩ : S32)] : List (S32))) (inner := [.int .u64 1, .int .u64 0, .int .u64 4, .int .u64 0]) (ok := fun _ => True) (okp := fun _ => True) ?hr ?hp (fun _ hk => hk) trivial (Below.refl _ _) (Nat.le_refl _) (by simp) ?_; (case hd => rfl); (case hg => rfl); (case hr => first | (go_simp; done) | (go_simp; rfl)); (case hp => exact (Reps.c2 (show Kd.M k32 _ _ _ (⟨1, 0⟩ : S32) [.int .u64 1, .int .u64 0] from (k32_mkM _ _ _ (⟨1, 0⟩ : S32) )) (Reps.c2 (show Kd.M k32 _ _ _ (⟨4, 0⟩ : S32) [.int .u64 4, .int .u64 0] from (k32_mkM _ _ _ (⟨4, 0⟩ : S32) )) (Reps.none _ _)))); intro v104 w15 ho16 hb hg_ hnew_; clear hg_ hnew_; (first | rw [← Ny103.out] at ho16 | (simp only [Int.reduceToNat] at ho16; rw [← Ny103.out] at ho16)); have n0_ := Aside0.mk (Kd.R_lower ho16 (below_size (by repeat (first | (with_reducible first | exact HB.out | apply below_alloc | apply pw_below_drewN | apply below_drew1) | exact HB.out)))); have n1_ := Aside0.mk (below_step (by repeat (first | (with_reducible first | exact HB.out | apply below_alloc | apply pw_below_drewN | apply below_drew1) | exact HB.out)) hb); clear HB; have HO105 := n0_; have HB := n1_; clear n0_ n1_; clear hb ho16) | ((with_reducible refine gate_dst (N := 9) rfl ?_); (try (refine gate_guard (by rfl) ?_; dsimp only)); refine Kd.R_lit k32 _ 32 ?hg (N := 9) ?hd (xs := ([(⟨2, 0⟩ : S32), (⟨3, 0⟩ : S32)] : List (S32))) (inner := [.int .u64 2, .int .u64 0, .int .u64 3, .int .u64 0]) (ok := fun _ => True) (okp := fun _ => True) ?hr ?hp (fun _ hk => hk) trivial (Below.refl _ _) (Nat.le_refl _) (by simp) ?_; (case hd => rfl); (case hg => rfl); (case hr => first | (go_simp; done) | (go_simp; rfl)); (case hp => exact (Reps.c2 (show Kd.M k32 _ _ _ (⟨2, 0⟩ : S32) [.int .u64 2, .int .u64 0] from (k32_mkM _ _ _ (⟨2, 0⟩ : S32) )) (Reps.c2 (show Kd.M k32 _ _ _ (⟨3, 0⟩ : S32) [.int .u64 3, .int .u64 0] from (k32_mkM _ _ _ (⟨3, 0⟩ : S32) )) (Reps.none _ _)))); intro v107 w17 ho18 hb hg_ hnew_; clear hg_ hnew_; (first | rw [← Ny106.out] at ho18 | (simp only [Int.reduceToNat] at ho18; rw [← Ny106.out] at ho18)); have n0_ := Aside0.mk (Kd.R_elder' (by (with_reducible repeat (first | apply Kd.R_alloc | apply Kd.R_drewN | apply Kd.R_drew)); exact HO105.out) (Kd.R_base ho18) hb); have n1_ := Aside0.mk (Kd.R_lower (Kd.R_new' ho18 (Kd.R_lt (by (with_reducible repeat (first | apply Kd.R_alloc | apply Kd.R_drewN | apply Kd.R_drew)); exact HO105.out))) (below_size (by repeat (first | (with_reducible first | exact HB.out | apply below_alloc | apply pw_below_drewN | apply below_drew1) | exact HB.out)))); have n2_ := Aside0.mk (below_step (by repeat (first | (with_reducible first | exact HB.out | apply below_alloc | apply pw_below_drewN | apply below_drew1) | exact HB.out)) hb); clear HO105; clear HB; have HO105 := n0_; have HO108 := n1_; have HB := n2_; clear n0_ n1_ n2_; clear hb ho18; obtain ⟨Ao19, co19, eo19⟩ := Kd.R_slice HO105.out; subst eo19; obtain ⟨Ao20, co20, eo20⟩ := Kd.R_slice HO108.out; subst eo20) | ((with_reducible refine gate_dst (N := 10) rfl ?_); (try (refine gate_guard (by rfl) ?_; dsimp only)); refine Kd.N_lit (Kd.slice 32 k32) _ 25 ?hg (N' := 10) ?hd (xs := ([y103, y106] : List (List (S32)))) (inner := [.slice Ao19 y103.length co19, .slice Ao20 y106.length co20]) (ok := (fun _ => True)) (okp := (fun _ => True)) ?hr ?hp (fun _ hk => hk) ((show ∀ k_, w17.heap.size ≤ k_ → (fun _ => True) k_ from fun k_ hk => trivial) _ (Nat.le_refl _)) (Below.refl _ _) (Nat.le_refl _) (by simp) ?_; (case hd => rfl); (case hg => rfl); (case hr => first | (go_simp; done) | (go_simp; rfl)); (case hp => exact (Reps.one (show Kd.FK (Kd.slice 32 k32) _ _ y103 [.slice Ao19 y103.length co19] from (Kd.FK_slice_mk (Kd.R_reads' (Kd.R_mono (ok' := (fun _ => True)) (HO105.out) (fun k_ hk => trivial))).2.1 (Kd.R_F (Kd.R_mono (ok' := (fun _ => True)) (HO105.out) (fun k_ hk => trivial))))) (Reps.one (show Kd.FK (Kd.slice 32 k32) _ _ y106 [.slice Ao20 y106.length co20] from (Kd.FK_slice_mk (Kd.R_reads' (Kd.R_mono (ok' := (fun _ => True)) (HO108.out) (fun k_ hk => trivial))).2.1 (Kd.R_F (Kd.R_mono (ok' := (fun _ => True)) (HO108.out) (fun k_ hk => trivial))))) (Reps.none _ _)))); intro v110 w21 ho22 hb hg_ hnew_; clear hg_ hnew_; (first | rw [← Ny109.out] at ho22 | (simp only [Int.reduceToNat] at ho22; rw [← Ny109.out] at ho22)); have n0_ := Aside0.mk (Kd.N_lower ho22 (below_size (by repeat (first | (with_reducible first | exact HB.out | apply below_alloc | apply pw_below_drewN | apply below_drew1) | exact HB.out)))); have n1_ := Aside0.mk (below_step (by repeat (first | (with_reducible first | exact HB.out | apply below_alloc | apply pw_below_drewN | apply below_drew1) | exact HB.out)) hb); clear HB; clear HO105; clear HO108; have HO111 := n0_; have HB := n1_; clear n0_ n1_; clear hb ho22; obtain ⟨Ao23, co23, eo23⟩ := Kd.N_slice HO111.out; subst eo23) | ((with_reducible refine gate_callee (f := 10) rfl ?_); refine goesL_ (some 12) rfl rfl Try.func10 (by kernel_rfl) rfl #[.slice Ao23 y109.length co23, .int .i64 9] rfl (by (try simp only [List.map_toArray, List.map_cons, List.map_nil]); first | done | rfl | (simp only [List.length_drop, List.length_take]; rfl)) ?_; (with_reducible refine (merge_Pairs.calls _ _ y109 9 t112 _ ?side1 ?side2 A1.out).mono ?_); (case side1 => repeat (first | exact (Kd.N_reads' HO111.out).2.2 | (with_reducible refine Kd.C_alloc ?_ _) | (with_reducible refine Kd.C_drewN ?_ _) | (with_reducible refine Kd.C_drew ?_))); (case side2 => exact (Kd.N_reads' HO111.out).2.1); rintro e w24 ⟨v113, rfl, ho0, hb⟩; refine ⟨_, rfl, ?_⟩; have n0_ := Aside0.mk (Kd.N_elder' (by (with_reducible repeat (first | apply Kd.N_alloc | apply Kd.N_drewN | apply Kd.N_drew)); exact HO111.out) (Kd.R_base ho0) hb); have n1_ := Aside0.mk (Kd.R_lower ho0 (below_size (by repeat (first | (with_reducible first | exact HB.out | apply below_alloc | apply pw_below_drewN | apply below_drew1) | exact HB.out)))); have n2_ := Aside0.mk (below_step (by repeat (first | (with_reducible first | exact HB.out | apply below_alloc | apply pw_below_drewN | apply below_drew1) | exact HB.out)) hb); clear HO111; clear HB; have HO111 := n0_; have HO114 := n1_; have HB := n2_; clear n0_ n1_ n2_; (try clear hb); (try clear hb2); (try clear hk); (try clear hi); (try clear ho0)) | ((with_reducible refine gate_callee (f := 10) rfl ?_); refine goesL_ (some 14) rfl rfl Try.func10 (by kernel_rfl) rfl #[.slice Ao23 y109.length co23, .int .i64 2] rfl (by (try simp only [List.map_toArray, List.map_cons, List.map_nil]); first | done | rfl | (simp only [List.length_drop, List.length_take]; rfl)) ?_; (with_reducible refine (merge_Pairs.calls _ _ y109 2 t115 _ ?side1 ?side2 A2.out).mono ?_); (case side1 => repeat (first | exact (Kd.N_reads' HO111.out).2.2 | (with_reducible refine Kd.C_alloc ?_ _) | (with_reducible refine Kd.C_drewN ?_ _) | (with_reducible refine Kd.C_drew ?_))); (case side2 => exact (Kd.N_reads' HO111.out).2.1); rintro e w25 ⟨v116, rfl, ho0, hb⟩; refine ⟨_, rfl, ?_⟩; have n0_ := Aside0.mk (Kd.N_elder' (by (with_reducible repeat (first | apply Kd.N_alloc | apply Kd.N_drewN | apply Kd.N_drew)); exact HO111.out) (Kd.R_base ho0) hb); have n1_ := Aside0.mk (Kd.R_elder' (by (with_reducible repeat (first | apply Kd.R_alloc | apply Kd.R_drewN | apply Kd.R_drew)); exact HO114.out) (Kd.R_base ho0) hb); have n2_ := Aside0.mk (Kd.R_lower (Kd.R_new' ho0 (Kd.R_lt (by (with_reducible repeat (first | apply Kd.R_alloc | apply Kd.R_drewN | apply Kd.R_drew)); exact HO114.out))) (below_size (by repeat (first | (with_reducible first | exact HB.out | apply below_alloc | apply pw_below_drewN | apply below_drew1) | exact HB.out)))); have n3_ := Aside0.mk (below_step (by repeat (first | (with_reducible first | exact HB.out | apply below_alloc | apply pw_below_drewN | apply below_drew1) | exact HB.out)) hb); clear HO111; clear HO114; clear HB; have HO111 := n0_; have HO114 := n1_; have HO117 := n2_; have HB := n3_; clear n0_ n1_ n2_ n3_; (try clear hb); (try clear hb2); (try clear hk); (try clear hi); (try clear ho0); obtain ⟨Ao26, co26, eo26⟩ := Kd.R_slice HO114.out; subst eo26; have p118 : 0 ≤ (1 : Int) := (by omega); have q118 : 1 < (t112.length : Int) := of_decide_eq_true (by first | (with_reducible assumption) | assumption); obtain ⟨ad118, e118, hx118_0, hx118_1⟩ := at_T32 (Kd.R_reads' HO114.out).2.2 1 p118 q118; cases e118; (try simp only [show (1 : Int).toNat = 1 from rfl, Nat.reduceMul, Nat.reduceEqDiff, Go.Addr.add, ↓reduceIte] at hx118_0); (try simp only [show (1 : Int).toNat = 1 from rfl, Nat.reduceMul, Nat.reduceEqDiff, Go.Addr.add, ↓reduceIte] at hx118_1); have qi118 : (1 < t112.length) = True := eq_true (by omega); (try rw [show ((1 : Int)).toNat = 1 from rfl] at hx118_0); (try rw [show 1 * 2 = 2 from rfl] at hx118_0); (try rw [show ((1 : Int)).toNat = 1 from rfl] at hx118_1); (try rw [show 1 * 2 = 2 from rfl] at hx118_1); replace p118 := eq_true p118; replace q118 := eq_true q118; have p119 : 0 ≤ (3 : Int) := (by omega); have q119 : 3 < (t112.length : Int) := of_decide_eq_true (by first | (with_reducible assumption) | assumption); obtain ⟨ad119, e119, hx119_0, hx119_1⟩ := at_T32 (Kd.R_reads' HO114.out).2.2 3 p119 q119; obtain rfl : ad118 = ad119 := (by injection e119); (try simp only [show (3 : Int).toNat = 3 from rfl, Nat.reduceMul, Nat.reduceEqDiff, Go.Addr.add, ↓reduceIte] at hx119_0); (try simp only [show (3 : Int).toNat = 3 from rfl, Nat.reduceMul, Nat.reduceEqDiff, Go.Addr.add, ↓reduceIte] at hx119_1); have qi119 : (3 < t112.length) = True := eq_true (by omega); (try rw [show ((3 : Int)).toNat = 3 from rfl] at hx119_0); (try rw [show 3 * 2 = 6 from rfl] at hx119_0); (try rw [show ((3 : Int)).toNat = 3 from rfl] at hx119_1); (try rw [show 3 * 2 = 6 from rfl] at hx119_1); replace p119 := eq_true p119; replace q119 := eq_true q119; obtain ⟨Ao27, co27, eo27⟩ := Kd.R_slice HO117.out; subst eo27; have p120 : 0 ≤ (1 : Int) := (by omega); have q120 : 1 < (t115.length : Int) := of_decide_eq_true (by first | (with_reducible assumption) | assumption); obtain ⟨ad120, e120, hx120_0, hx120_1⟩ := at_T32 (Kd.R_reads' HO117.out).2.2 1 p120 q120; cases e120; (try simp only [show (1 : Int).toNat = 1 from rfl, Nat.reduceMul, Nat.reduceEqDiff, Go.Addr.add, ↓reduceIte] at hx120_0); (try simp only [show (1 : Int).toNat = 1 from rfl, Nat.reduceMul, Nat.reduceEqDiff, Go.Addr.add, ↓reduceIte] at hx120_1); have qi120 : (1 < t115.length) = True := eq_true (by omega); (try rw [show ((1 : Int)).toNat = 1 from rfl] at hx120_0); (try rw [show 1 * 2 = 2 from rfl] at hx120_0); (try rw [show ((1 : Int)).toNat = 1 from rfl] at hx120_1); (try rw [show 1 * 2 = 2 from rfl] at hx120_1); replace p120 := eq_true p120; replace q120 := eq_true q120) | (go_at_call 13; (with_reducible refine (merge_Rises.calls k _ _ t112 true _ ?side1 ?side2 A11.out).mono ?_); (case side1 => repeat (first | exact (Kd.R_reads' HO114.out).2.2 | (with_reducible refine Kd.C_alloc ?_ _) | (with_reducible refine Kd.C_drewN ?_ _) | (with_reducible refine Kd.C_drew ?_))); (case side2 => exact (Kd.R_reads' HO114.out).2.1); rintro e w' ⟨rfl, ⟨nd, rfl⟩⟩) | ((with_reducible refine gate_dst (N := 51) rfl ?_); (try (refine gate_guard (by rfl) ?_; dsimp only)); refine Kd.R_lit k32 _ 32 ?hg (N := 51) ?hd (xs := ([(⟨0, 0⟩ : S32), (⟨0, 0⟩ : S32)] : List (S32))) (inner := [.int .u64 0, .int .u64 0, .int .u64 0, .int .u64 0]) (ok := fun _ => True) (okp := fun _ => True) ?hr ?hp (fun _ hk => hk) trivial (Below.refl _ _) (Nat.le_refl _) (by simp) ?_; (case hd => rfl); (case hg => rfl); (case hr => first | (go_simp; done) | (go_simp; rfl)); (case hp => exact (Reps.c2 (show Kd.M k32 _ _ _ (⟨0, 0⟩ : S32) [.int .u64 0, .int .u64 0] from (k32_mkM _ _ _ (⟨0, 0⟩ : S32) )) (Reps.c2 (show Kd.M k32 _ _ _ (⟨0, 0⟩ : S32) [.int .u64 0, .int .u64 0] from (k32_mkM _ _ _ (⟨0, 0⟩ : S32) )) (Reps.none _ _)))); intro v123 w28 ho29 hb hg_ hnew_; clear hg_ hnew_; (first | rw [← Ny122.out] at ho29 | (simp only [Int.reduceToNat] at ho29; rw [← Ny122.out] at ho29)); have n0_ := Aside0.mk (Kd.N_elder' (by (with_reducible repeat (first | apply Kd.N_alloc | apply Kd.N_drewN | apply Kd.N_drew)); exact HO111.out) (Kd.R_base ho29) hb); have n1_ := Aside0.mk (Kd.R_elder' (by (with_reducible repeat (first | apply Kd.R_alloc | apply Kd.R_drewN | apply Kd.R_drew)); exact HO114.out) (Kd.R_base ho29) hb); have n2_ := Aside0.mk (Kd.R_elder' (by (with_reducible repeat (first | apply Kd.R_alloc | apply Kd.R_drewN | apply Kd.R_drew)); exact HO117.out) (Kd.R_base ho29) hb); have n3_ := Aside0.mk (Kd.R_lower (Kd.R_new' (Kd.R_new' ho29 (Kd.R_lt (by (with_reducible repeat (first | apply Kd.R_alloc | apply Kd.R_drewN | apply Kd.R_drew)); exact HO114.out))) (Kd.R_lt (by (with_reducible repeat (first | apply Kd.R_alloc | apply Kd.R_drewN | apply Kd.R_drew)); exact HO117.out))) (below_size (by repeat (first | (with_reducible first | exact HB.out | apply below_alloc | apply pw_below_drewN | apply below_drew1) | exact HB.out)))); have n4_ := Aside0.mk (below_step (by repeat (first | (with_reducible first | exact HB.out | apply below_alloc | apply pw_below_drewN | apply below_drew1) | exact HB.out)) hb); clear HO111; clear HO114; clear HO117; clear HB; have HO111 := n0_; have HO114 := n1_; have HO117 := n2_; have HO124 := n3_; have HB := n4_; clear n0_ n1_ n2_ n3_ n4_; clear hb ho29; obtain ⟨Ao30, co30, eo30⟩ := Kd.R_slice HO124.out; subst eo30) | (go_at_call 13; (with_reducible refine (merge_Rises.calls k _ _ y122 true _ ?side1 ?side2 A13.out).mono ?_); (case side1 => repeat (first | exact (Kd.R_reads' HO124.out).2.2 | (with_reducible refine Kd.C_alloc ?_ _) | (with_reducible refine Kd.C_drewN ?_ _) | (with_reducible refine Kd.C_drew ?_))); (case side2 => exact (Kd.R_reads' HO124.out).2.1); rintro e w' ⟨rfl, ⟨nd, rfl⟩⟩))
                      go_ret
                      exact ⟨by first | rfl | (simp [errW_none, errW_some] <;> rfl) | (simp [*, errW_none, errW_some] <;> rfl), by repeat (first | (with_reducible first | exact HB.out | apply below_alloc | apply pw_below_drewN | apply below_drew1) | exact HB.out)⟩
                    · replace c14 := Bool.eq_false_iff.mpr c14
                      subst c14
                      have H1 : ((merge_Pairs.f y109 (-1)).bind fun t126 => (some ((t126.length : Int) == 0))) = some r := by rw [if_neg (show ¬ (false = true) by decide)] at H; exact H
                      clear H
                      have H := H1
                      clear H1
                      replace H := Option.bind_eq_some_iff.mp H
                      obtain ⟨t126, A310, H⟩ := H
                      replace H : (some ((t126.length : Int) == 0)) = some r := H
                      have A31 := Aside0.mk A310
                      clear A310
                      obtain rfl := Option.some.inj H
                      go_enter Try.func8, Try.ntmps8
                      go_wp2_with (first | ((with_reducible refine gate_dst (N := 6) rfl ?_); (try (refine gate_guard (by rfl) ?_; dsimp only)); refine Kd.R_lit k32 _ 32 ?hg (N := 6) ?hd (xs := ([(⟨1, 0⟩ : S32), (⟨4, 0⟩ : S32)] : List (S32))) (inner := [.int .u64 1, .int .u64 0, .int .u64 4, .int .u64 0]) (ok := fun _ => True) (okp := fun _ => True) ?hr ?hp (fun _ hk => hk) trivial (Below.refl _ _) (Nat.le_refl _) (by simp) ?_; (case hd => rfl); (case hg => rfl); (case hr => first | (go_simp; done) | (go_simp; rfl)); (case hp => exact (Reps.c2 (show Kd.M k32 _ _ _ (⟨1, 0⟩ : S32) [.int .u64 1, .int .u64 0] from (k32_mkM _ _ _ (⟨1, 0⟩ : S32) )) (Reps.c2 (show Kd.M k32 _ _ _ (⟨4, 0⟩ : S32) [.int .u64 4, .int .u64 0] from (k32_mkM _ _ _ (⟨4, 0⟩ : S32) )) (Reps.none _ _)))); intro v104 w32 ho33 hb hg_ hnew_; clear hg_ hnew_; (first | rw [← Ny103.out] at ho33 | (simp only [Int.reduceToNat] at ho33; rw [← Ny103.out] at ho33)); have n0_ := Aside0.mk (Kd.R_lower ho33 (below_size (by repeat (first | (with_reducible first | exact HB.out | apply below_alloc | apply pw_below_drewN | apply below_drew1) | exact HB.out)))); have n1_ := Aside0.mk (below_step (by repeat (first | (with_reducible first | exact HB.out | apply below_alloc | apply pw_below_drewN | apply below_drew1) | exact HB.out)) hb); clear HB; have HO105 := n0_; have HB := n1_; clear n0_ n1_; clear hb ho33) | ((with_reducible refine gate_dst (N := 9) rfl ?_); (try (refine gate_guard (by rfl) ?_; dsimp only)); refine Kd.R_lit k32 _ 32 ?hg (N := 9) ?hd (xs := ([(⟨2, 0⟩ : S32), (⟨3, 0⟩ : S32)] : List (S32))) (inner := [.int .u64 2, .int .u64 0, .int .u64 3, .int .u64 0]) (ok := fun _ => True) (okp := fun _ => True) ?hr ?hp (fun _ hk => hk) trivial (Below.refl _ _) (Nat.le_refl _) (by simp) ?_; (case hd => rfl); (case hg => rfl); (case hr => first | (go_simp; done) | (go_simp; rfl)); (case hp => exact (Reps.c2 (show Kd.M k32 _ _ _ (⟨2, 0⟩ : S32) [.int .u64 2, .int .u64 0] from (k32_mkM _ _ _ (⟨2, 0⟩ : S32) )) (Reps.c2 (show Kd.M k32 _ _ _ (⟨3, 0⟩ : S32) [.int .u64 3, .int .u64 0] from (k32_mkM _ _ _ (⟨3, 0⟩ : S32) )) (Reps.none _ _)))); intro v107 w34 ho35 hb hg_ hnew_; clear hg_ hnew_; (first | rw [← Ny106.out] at ho35 | (simp only [Int.reduceToNat] at ho35; rw [← Ny106.out] at ho35)); have n0_ := Aside0.mk (Kd.R_elder' (by (with_reducible repeat (first | apply Kd.R_alloc | apply Kd.R_drewN | apply Kd.R_drew)); exact HO105.out) (Kd.R_base ho35) hb); have n1_ := Aside0.mk (Kd.R_lower (Kd.R_new' ho35 (Kd.R_lt (by (with_reducible repeat (first | apply Kd.R_alloc | apply Kd.R_drewN | apply Kd.R_drew)); exact HO105.out))) (below_size (by repeat (first | (with_reducible first | exact HB.out | apply below_alloc | apply pw_below_drewN | apply below_drew1) | exact HB.out)))); have n2_ := Aside0.mk (below_step (by repeat (first | (with_reducible first | exact HB.out | apply below_alloc | apply pw_below_drewN | apply below_drew1) | exact HB.out)) hb); clear HO105; clear HB; have HO105 := n0_; have HO108 := n1_; have HB := n2_; clear n0_ n1_ n2_; clear hb ho35; obtain ⟨Ao36, co36, eo36⟩ := Kd.R_slice HO105.out; subst eo36; obtain ⟨Ao37, co37, eo37⟩ := Kd.R_slice HO108.out; subst eo37) | ((with_reducible refine gate_dst (N := 10) rfl ?_); (try (refine gate_guard (by rfl) ?_; dsimp only)); refine Kd.N_lit (Kd.slice 32 k32) _ 25 ?hg (N' := 10) ?hd (xs := ([y103, y106] : List (List (S32)))) (inner := [.slice Ao36 y103.length co36, .slice Ao37 y106.length co37]) (ok := (fun _ => True)) (okp := (fun _ => True)) ?hr ?hp (fun _ hk => hk) ((show ∀ k_, w34.heap.size ≤ k_ → (fun _ => True) k_ from fun k_ hk => trivial) _ (Nat.le_refl _)) (Below.refl _ _) (Nat.le_refl _) (by simp) ?_; (case hd => rfl); (case hg => rfl); (case hr => first | (go_simp; done) | (go_simp; rfl)); (case hp => exact (Reps.one (show Kd.FK (Kd.slice 32 k32) _ _ y103 [.slice Ao36 y103.length co36] from (Kd.FK_slice_mk (Kd.R_reads' (Kd.R_mono (ok' := (fun _ => True)) (HO105.out) (fun k_ hk => trivial))).2.1 (Kd.R_F (Kd.R_mono (ok' := (fun _ => True)) (HO105.out) (fun k_ hk => trivial))))) (Reps.one (show Kd.FK (Kd.slice 32 k32) _ _ y106 [.slice Ao37 y106.length co37] from (Kd.FK_slice_mk (Kd.R_reads' (Kd.R_mono (ok' := (fun _ => True)) (HO108.out) (fun k_ hk => trivial))).2.1 (Kd.R_F (Kd.R_mono (ok' := (fun _ => True)) (HO108.out) (fun k_ hk => trivial))))) (Reps.none _ _)))); intro v110 w38 ho39 hb hg_ hnew_; clear hg_ hnew_; (first | rw [← Ny109.out] at ho39 | (simp only [Int.reduceToNat] at ho39; rw [← Ny109.out] at ho39)); have n0_ := Aside0.mk (Kd.N_lower ho39 (below_size (by repeat (first | (with_reducible first | exact HB.out | apply below_alloc | apply pw_below_drewN | apply below_drew1) | exact HB.out)))); have n1_ := Aside0.mk (below_step (by repeat (first | (with_reducible first | exact HB.out | apply below_alloc | apply pw_below_drewN | apply below_drew1) | exact HB.out)) hb); clear HB; clear HO105; clear HO108; have HO111 := n0_; have HB := n1_; clear n0_ n1_; clear hb ho39; obtain ⟨Ao40, co40, eo40⟩ := Kd.N_slice HO111.out; subst eo40) | ((with_reducible refine gate_callee (f := 10) rfl ?_); refine goesL_ (some 12) rfl rfl Try.func10 (by kernel_rfl) rfl #[.slice Ao40 y109.length co40, .int .i64 9] rfl (by (try simp only [List.map_toArray, List.map_cons, List.map_nil]); first | done | rfl | (simp only [List.length_drop, List.length_take]; rfl)) ?_; (with_reducible refine (merge_Pairs.calls _ _ y109 9 t112 _ ?side1 ?side2 A1.out).mono ?_); (case side1 => repeat (first | exact (Kd.N_reads' HO111.out).2.2 | (with_reducible refine Kd.C_alloc ?_ _) | (with_reducible refine Kd.C_drewN ?_ _) | (with_reducible refine Kd.C_drew ?_))); (case side2 => exact (Kd.N_reads' HO111.out).2.1); rintro e w41 ⟨v113, rfl, ho0, hb⟩; refine ⟨_, rfl, ?_⟩; have n0_ := Aside0.mk (Kd.N_elder' (by (with_reducible repeat (first | apply Kd.N_alloc | apply Kd.N_drewN | apply Kd.N_drew)); exact HO111.out) (Kd.R_base ho0) hb); have n1_ := Aside0.mk (Kd.R_lower ho0 (below_size (by repeat (first | (with_reducible first | exact HB.out | apply below_alloc | apply pw_below_drewN | apply below_drew1) | exact HB.out)))); have n2_ := Aside0.mk (below_step (by repeat (first | (with_reducible first | exact HB.out | apply below_alloc | apply pw_below_drewN | apply below_drew1) | exact HB.out)) hb); clear HO111; clear HB; have HO111 := n0_; have HO114 := n1_; have HB := n2_; clear n0_ n1_ n2_; (try clear hb); (try clear hb2); (try clear hk); (try clear hi); (try clear ho0)) | ((with_reducible refine gate_callee (f := 10) rfl ?_); refine goesL_ (some 14) rfl rfl Try.func10 (by kernel_rfl) rfl #[.slice Ao40 y109.length co40, .int .i64 2] rfl (by (try simp only [List.map_toArray, List.map_cons, List.map_nil]); first | done | rfl | (simp only [List.length_drop, List.length_take]; rfl)) ?_; (with_reducible refine (merge_Pairs.calls _ _ y109 2 t115 _ ?side1 ?side2 A2.out).mono ?_); (case side1 => repeat (first | exact (Kd.N_reads' HO111.out).2.2 | (with_reducible refine Kd.C_alloc ?_ _) | (with_reducible refine Kd.C_drewN ?_ _) | (with_reducible refine Kd.C_drew ?_))); (case side2 => exact (Kd.N_reads' HO111.out).2.1); rintro e w42 ⟨v116, rfl, ho0, hb⟩; refine ⟨_, rfl, ?_⟩; have n0_ := Aside0.mk (Kd.N_elder' (by (with_reducible repeat (first | apply Kd.N_alloc | apply Kd.N_drewN | apply Kd.N_drew)); exact HO111.out) (Kd.R_base ho0) hb); have n1_ := Aside0.mk (Kd.R_elder' (by (with_reducible repeat (first | apply Kd.R_alloc | apply Kd.R_drewN | apply Kd.R_drew)); exact HO114.out) (Kd.R_base ho0) hb); have n2_ := Aside0.mk (Kd.R_lower (Kd.R_new' ho0 (Kd.R_lt (by (with_reducible repeat (first | apply Kd.R_alloc | apply Kd.R_drewN | apply Kd.R_drew)); exact HO114.out))) (below_size (by repeat (first | (with_reducible first | exact HB.out | apply below_alloc | apply pw_below_drewN | apply below_drew1) | exact HB.out)))); have n3_ := Aside0.mk (below_step (by repeat (first | (with_reducible first | exact HB.out | apply below_alloc | apply pw_below_drewN | apply below_drew1) | exact HB.out)) hb); clear HO111; clear HO114; clear HB; have HO111 := n0_; have HO114 := n1_; have HO117 := n2_; have HB := n3_; clear n0_ n1_ n2_ n3_; (try clear hb); (try clear hb2); (try clear hk); (try clear hi); (try clear ho0); obtain ⟨Ao43, co43, eo43⟩ := Kd.R_slice HO114.out; subst eo43; have p118 : 0 ≤ (1 : Int) := (by omega); have q118 : 1 < (t112.length : Int) := of_decide_eq_true (by first | (with_reducible assumption) | assumption); obtain ⟨ad118, e118, hx118_0, hx118_1⟩ := at_T32 (Kd.R_reads' HO114.out).2.2 1 p118 q118; cases e118; (try simp only [show (1 : Int).toNat = 1 from rfl, Nat.reduceMul, Nat.reduceEqDiff, Go.Addr.add, ↓reduceIte] at hx118_0); (try simp only [show (1 : Int).toNat = 1 from rfl, Nat.reduceMul, Nat.reduceEqDiff, Go.Addr.add, ↓reduceIte] at hx118_1); have qi118 : (1 < t112.length) = True := eq_true (by omega); (try rw [show ((1 : Int)).toNat = 1 from rfl] at hx118_0); (try rw [show 1 * 2 = 2 from rfl] at hx118_0); (try rw [show ((1 : Int)).toNat = 1 from rfl] at hx118_1); (try rw [show 1 * 2 = 2 from rfl] at hx118_1); replace p118 := eq_true p118; replace q118 := eq_true q118; have p119 : 0 ≤ (3 : Int) := (by omega); have q119 : 3 < (t112.length : Int) := of_decide_eq_true (by first | (with_reducible assumption) | assumption); obtain ⟨ad119, e119, hx119_0, hx119_1⟩ := at_T32 (Kd.R_reads' HO114.out).2.2 3 p119 q119; obtain rfl : ad118 = ad119 := (by injection e119); (try simp only [show (3 : Int).toNat = 3 from rfl, Nat.reduceMul, Nat.reduceEqDiff, Go.Addr.add, ↓reduceIte] at hx119_0); (try simp only [show (3 : Int).toNat = 3 from rfl, Nat.reduceMul, Nat.reduceEqDiff, Go.Addr.add, ↓reduceIte] at hx119_1); have qi119 : (3 < t112.length) = True := eq_true (by omega); (try rw [show ((3 : Int)).toNat = 3 from rfl] at hx119_0); (try rw [show 3 * 2 = 6 from rfl] at hx119_0); (try rw [show ((3 : Int)).toNat = 3 from rfl] at hx119_1); (try rw [show 3 * 2 = 6 from rfl] at hx119_1); replace p119 := eq_true p119; replace q119 := eq_true q119; obtain ⟨Ao44, co44, eo44⟩ := Kd.R_slice HO117.out; subst eo44; have p120 : 0 ≤ (1 : Int) := (by omega); have q120 : 1 < (t115.length : Int) := of_decide_eq_true (by first | (with_reducible assumption) | assumption); obtain ⟨ad120, e120, hx120_0, hx120_1⟩ := at_T32 (Kd.R_reads' HO117.out).2.2 1 p120 q120; cases e120; (try simp only [show (1 : Int).toNat = 1 from rfl, Nat.reduceMul, Nat.reduceEqDiff, Go.Addr.add, ↓reduceIte] at hx120_0); (try simp only [show (1 : Int).toNat = 1 from rfl, Nat.reduceMul, Nat.reduceEqDiff, Go.Addr.add, ↓reduceIte] at hx120_1); have qi120 : (1 < t115.length) = True := eq_true (by omega); (try rw [show ((1 : Int)).toNat = 1 from rfl] at hx120_0); (try rw [show 1 * 2 = 2 from rfl] at hx120_0); (try rw [show ((1 : Int)).toNat = 1 from rfl] at hx120_1); (try rw [show 1 * 2 = 2 from rfl] at hx120_1); replace p120 := eq_true p120; replace q120 := eq_true q120) | (go_at_call 13; (with_reducible refine (merge_Rises.calls k _ _ t112 true _ ?side1 ?side2 A11.out).mono ?_); (case side1 => repeat (first | exact (Kd.R_reads' HO114.out).2.2 | (with_reducible refine Kd.C_alloc ?_ _) | (with_reducible refine Kd.C_drewN ?_ _) | (with_reducible refine Kd.C_drew ?_))); (case side2 => exact (Kd.R_reads' HO114.out).2.1); rintro e w' ⟨rfl, ⟨nd, rfl⟩⟩) | ((with_reducible refine gate_dst (N := 51) rfl ?_); (try (refine gate_guard (by rfl) ?_; dsimp only)); refine Kd.R_lit k32 _ 32 ?hg (N := 51) ?hd (xs := ([(⟨0, 0⟩ : S32), (⟨0, 0⟩ : S32)] : List (S32))) (inner := [.int .u64 0, .int .u64 0, .int .u64 0, .int .u64 0]) (ok := fun _ => True) (okp := fun _ => True) ?hr ?hp (fun _ hk => hk) trivial (Below.refl _ _) (Nat.le_refl _) (by simp) ?_; (case hd => rfl); (case hg => rfl); (case hr => first | (go_simp; done) | (go_simp; rfl)); (case hp => exact (Reps.c2 (show Kd.M k32 _ _ _ (⟨0, 0⟩ : S32) [.int .u64 0, .int .u64 0] from (k32_mkM _ _ _ (⟨0, 0⟩ : S32) )) (Reps.c2 (show Kd.M k32 _ _ _ (⟨0, 0⟩ : S32) [.int .u64 0, .int .u64 0] from (k32_mkM _ _ _ (⟨0, 0⟩ : S32) )) (Reps.none _ _)))); intro v123 w45 ho46 hb hg_ hnew_; clear hg_ hnew_; (first | rw [← Ny122.out] at ho46 | (simp only [Int.reduceToNat] at ho46; rw [← Ny122.out] at ho46)); have n0_ := Aside0.mk (Kd.N_elder' (by (with_reducible repeat (first | apply Kd.N_alloc | apply Kd.N_drewN | apply Kd.N_drew)); exact HO111.out) (Kd.R_base ho46) hb); have n1_ := Aside0.mk (Kd.R_elder' (by (with_reducible repeat (first | apply Kd.R_alloc | apply Kd.R_drewN | apply Kd.R_drew)); exact HO114.out) (Kd.R_base ho46) hb); have n2_ := Aside0.mk (Kd.R_elder' (by (with_reducible repeat (first | apply Kd.R_alloc | apply Kd.R_drewN | apply Kd.R_drew)); exact HO117.out) (Kd.R_base ho46) hb); have n3_ := Aside0.mk (Kd.R_lower (Kd.R_new' (Kd.R_new' ho46 (Kd.R_lt (by (with_reducible repeat (first | apply Kd.R_alloc | apply Kd.R_drewN | apply Kd.R_drew)); exact HO114.out))) (Kd.R_lt (by (with_reducible repeat (first | apply Kd.R_alloc | apply Kd.R_drewN | apply Kd.R_drew)); exact HO117.out))) (below_size (by repeat (first | (with_reducible first | exact HB.out | apply below_alloc | apply pw_below_drewN | apply below_drew1) | exact HB.out)))); have n4_ := Aside0.mk (below_step (by repeat (first | (with_reducible first | exact HB.out | apply below_alloc | apply pw_below_drewN | apply below_drew1) | exact HB.out)) hb); clear HO111; clear HO114; clear HO117; clear HB; have HO111 := n0_; have HO114 := n1_; have HO117 := n2_; have HO124 := n3_; have HB := n4_; clear n0_ n1_ n2_ n3_ n4_; clear hb ho46; obtain ⟨Ao47, co47, eo47⟩ := Kd.R_slice HO124.out; subst eo47) | (go_at_call 13; (with_reducible refine (merge_Rises.calls k _ _ y122 false _ ?side1 ?side2 A13.out).mono ?_); (case side1 => repeat (first | exact (Kd.R_reads' HO124.out).2.2 | (with_reducible refine Kd.C_alloc ?_ _) | (with_reducible refine Kd.C_drewN ?_ _) | (with_reducible refine Kd.C_drew ?_))); (case side2 => exact (Kd.R_reads' HO124.out).2.1); rintro e w' ⟨rfl, ⟨nd, rfl⟩⟩) | (go_at_call 10; (with_reducible refine (merge_Pairs.calls _ _ y109 (-1) t126 _ ?side1 ?side2 A31.out).mono ?_); (case side1 => repeat (first | exact (Kd.N_reads' HO111.out).2.2 | (with_reducible refine Kd.C_alloc ?_ _) | (with_reducible refine Kd.C_drewN ?_ _) | (with_reducible refine Kd.C_drew ?_))); (case side2 => exact (Kd.N_reads' HO111.out).2.1); rintro e w48 ⟨v127, rfl, ho0, hb⟩; have n0_ := Aside0.mk (Kd.N_elder' (by (with_reducible repeat (first | apply Kd.N_alloc | apply Kd.N_drewN | apply Kd.N_drew)); exact HO111.out) (Kd.R_base ho0) hb); have n1_ := Aside0.mk (Kd.R_elder' (by (with_reducible repeat (first | apply Kd.R_alloc | apply Kd.R_drewN | apply Kd.R_drew)); exact HO114.out) (Kd.R_base ho0) hb); have n2_ := Aside0.mk (Kd.R_elder' (by (with_reducible repeat (first | apply Kd.R_alloc | apply Kd.R_drewN | apply Kd.R_drew)); exact HO117.out) (Kd.R_base ho0) hb); have n3_ := Aside0.mk (Kd.R_elder' (by (with_reducible repeat (first | apply Kd.R_alloc | apply Kd.R_drewN | apply Kd.R_drew)); exact HO124.out) (Kd.R_base ho0) hb); have n4_ := Aside0.mk (Kd.R_lower (Kd.R_new' (Kd.R_new' (Kd.R_new' ho0 (Kd.R_lt (by (with_reducible repeat (first | apply Kd.R_alloc | apply Kd.R_drewN | apply Kd.R_drew)); exact HO114.out))) (Kd.R_lt (by (with_reducible repeat (first | apply Kd.R_alloc | apply Kd.R_drewN | apply Kd.R_drew)); exact HO117.out))) (Kd.R_lt (by (with_reducible repeat (first | apply Kd.R_alloc | apply Kd.R_drewN | apply Kd.R_drew)); exact HO124.out))) (below_size (by repeat (first | (with_reducible first | exact HB.out | apply below_alloc | apply pw_below_drewN | apply below_drew1) | exact HB.out)))); have n5_ := Aside0.mk (below_step (by repeat (first | (with_reducible first | exact HB.out | apply below_alloc | apply pw_below_drewN | apply below_drew1) | exact HB.out)) hb); clear HO111; clear HO114; clear HO117; clear HO124; clear HB; have HO111 := n0_; have HO114 := n1_; have HO117 := n2_; have HO124 := n3_; have HO128 := n4_; have HB := n5_; clear n0_ n1_ n2_ n3_ n4_ n5_; (try clear hb); (try clear hb2); (try clear hk); (try clear hi); (try clear ho0); obtain ⟨Ao49, co49, eo49⟩ := Kd.R_slice HO128.out; subst eo49))
                      go_ret
                      exact ⟨by first | rfl | (simp [errW_none, errW_some] <;> rfl) | (simp [*, errW_none, errW_some] <;> rfl), by repeat (first | (with_reducible first | exact HB.out | apply below_alloc | apply pw_below_drewN | apply below_drew1) | exact HB.out)⟩
                  · replace c12 := Bool.eq_false_iff.mpr c12
                    subst c12
                    have H1 : (some false) = some r := by rw [if_neg (show ¬ (false = true) by decide)] at H; exact H
                    clear H
                    have H := H1
                    clear H1
                    obtain rfl := Option.some.inj H
                    go_enter Try.func8, Try.ntmps8
                    go_wp2_with (first | ((with_reducible refine gate_dst (N := 6) rfl ?_); (try (refine gate_guard (by rfl) ?_; dsimp only)); refine Kd.R_lit k32 _ 32 ?hg (N := 6) ?hd (xs := ([(⟨1, 0⟩ : S32), (⟨4, 0⟩ : S32)] : List (S32))) (inner := [.int .u64 1, .int .u64 0, .int .u64 4, .int .u64 0]) (ok := fun _ => True) (okp := fun _ => True) ?hr ?hp (fun _ hk => hk) trivial (Below.refl _ _) (Nat.le_refl _) (by simp) ?_; (case hd => rfl); (case hg => rfl); (case hr => first | (go_simp; done) | (go_simp; rfl)); (case hp => exact (Reps.c2 (show Kd.M k32 _ _ _ (⟨1, 0⟩ : S32) [.int .u64 1, .int .u64 0] from (k32_mkM _ _ _ (⟨1, 0⟩ : S32) )) (Reps.c2 (show Kd.M k32 _ _ _ (⟨4, 0⟩ : S32) [.int .u64 4, .int .u64 0] from (k32_mkM _ _ _ (⟨4, 0⟩ : S32) )) (Reps.none _ _)))); intro v104 w50 ho51 hb hg_ hnew_; clear hg_ hnew_; (first | rw [← Ny103.out] at ho51 | (simp only [Int.reduceToNat] at ho51; rw [← Ny103.out] at ho51)); have n0_ := Aside0.mk (Kd.R_lower ho51 (below_size (by repeat (first | (with_reducible first | exact HB.out | apply below_alloc | apply pw_below_drewN | apply below_drew1) | exact HB.out)))); have n1_ := Aside0.mk (below_step (by repeat (first | (with_reducible first | exact HB.out | apply below_alloc | apply pw_below_drewN | apply below_drew1) | exact HB.out)) hb); clear HB; have HO105 := n0_; have HB := n1_; clear n0_ n1_; clear hb ho51) | ((with_reducible refine gate_dst (N := 9) rfl ?_); (try (refine gate_guard (by rfl) ?_; dsimp only)); refine Kd.R_lit k32 _ 32 ?hg (N := 9) ?hd (xs := ([(⟨2, 0⟩ : S32), (⟨3, 0⟩ : S32)] : List (S32))) (inner := [.int .u64 2, .int .u64 0, .int .u64 3, .int .u64 0]) (ok := fun _ => True) (okp := fun _ => True) ?hr ?hp (fun _ hk => hk) trivial (Below.refl _ _) (Nat.le_refl _) (by simp) ?_; (case hd => rfl); (case hg => rfl); (case hr => first | (go_simp; done) | (go_simp; rfl)); (case hp => exact (Reps.c2 (show Kd.M k32 _ _ _ (⟨2, 0⟩ : S32) [.int .u64 2, .int .u64 0] from (k32_mkM _ _ _ (⟨2, 0⟩ : S32) )) (Reps.c2 (show Kd.M k32 _ _ _ (⟨3, 0⟩ : S32) [.int .u64 3, .int .u64 0] from (k32_mkM _ _ _ (⟨3, 0⟩ : S32) )) (Reps.none _ _)))); intro v107 w52 ho53 hb hg_ hnew_; clear hg_ hnew_; (first | rw [← Ny106.out] at ho53 | (simp only [Int.reduceToNat] at ho53; rw [← Ny106.out] at ho53)); have n0_ := Aside0.mk (Kd.R_elder' (by (with_reducible repeat (first | apply Kd.R_alloc | apply Kd.R_drewN | apply Kd.R_drew)); exact HO105.out) (Kd.R_base ho53) hb); have n1_ := Aside0.mk (Kd.R_lower (Kd.R_new' ho53 (Kd.R_lt (by (with_reducible repeat (first | apply Kd.R_alloc | apply Kd.R_drewN | apply Kd.R_drew)); exact HO105.out))) (below_size (by repeat (first | (with_reducible first | exact HB.out | apply below_alloc | apply pw_below_drewN | apply below_drew1) | exact HB.out)))); have n2_ := Aside0.mk (below_step (by repeat (first | (with_reducible first | exact HB.out | apply below_alloc | apply pw_below_drewN | apply below_drew1) | exact HB.out)) hb); clear HO105; clear HB; have HO105 := n0_; have HO108 := n1_; have HB := n2_; clear n0_ n1_ n2_; clear hb ho53; obtain ⟨Ao54, co54, eo54⟩ := Kd.R_slice HO105.out; subst eo54; obtain ⟨Ao55, co55, eo55⟩ := Kd.R_slice HO108.out; subst eo55) | ((with_reducible refine gate_dst (N := 10) rfl ?_); (try (refine gate_guard (by rfl) ?_; dsimp only)); refine Kd.N_lit (Kd.slice 32 k32) _ 25 ?hg (N' := 10) ?hd (xs := ([y103, y106] : List (List (S32)))) (inner := [.slice Ao54 y103.length co54, .slice Ao55 y106.length co55]) (ok := (fun _ => True)) (okp := (fun _ => True)) ?hr ?hp (fun _ hk => hk) ((show ∀ k_, w52.heap.size ≤ k_ → (fun _ => True) k_ from fun k_ hk => trivial) _ (Nat.le_refl _)) (Below.refl _ _) (Nat.le_refl _) (by simp) ?_; (case hd => rfl); (case hg => rfl); (case hr => first | (go_simp; done) | (go_simp; rfl)); (case hp => exact (Reps.one (show Kd.FK (Kd.slice 32 k32) _ _ y103 [.slice Ao54 y103.length co54] from (Kd.FK_slice_mk (Kd.R_reads' (Kd.R_mono (ok' := (fun _ => True)) (HO105.out) (fun k_ hk => trivial))).2.1 (Kd.R_F (Kd.R_mono (ok' := (fun _ => True)) (HO105.out) (fun k_ hk => trivial))))) (Reps.one (show Kd.FK (Kd.slice 32 k32) _ _ y106 [.slice Ao55 y106.length co55] from (Kd.FK_slice_mk (Kd.R_reads' (Kd.R_mono (ok' := (fun _ => True)) (HO108.out) (fun k_ hk => trivial))).2.1 (Kd.R_F (Kd.R_mono (ok' := (fun _ => True)) (HO108.out) (fun k_ hk => trivial))))) (Reps.none _ _)))); intro v110 w56 ho57 hb hg_ hnew_; clear hg_ hnew_; (first | rw [← Ny109.out] at ho57 | (simp only [Int.reduceToNat] at ho57; rw [← Ny109.out] at ho57)); have n0_ := Aside0.mk (Kd.N_lower ho57 (below_size (by repeat (first | (with_reducible first | exact HB.out | apply below_alloc | apply pw_below_drewN | apply below_drew1) | exact HB.out)))); have n1_ := Aside0.mk (below_step (by repeat (first | (with_reducible first | exact HB.out | apply below_alloc | apply pw_below_drewN | apply below_drew1) | exact HB.out)) hb); clear HB; clear HO105; clear HO108; have HO111 := n0_; have HB := n1_; clear n0_ n1_; clear hb ho57; obtain ⟨Ao58, co58, eo58⟩ := Kd.N_slice HO111.out; subst eo58) | ((with_reducible refine gate_callee (f := 10) rfl ?_); refine goesL_ (some 12) rfl rfl Try.func10 (by kernel_rfl) rfl #[.slice Ao58 y109.length co58, .int .i64 9] rfl (by (try simp only [List.map_toArray, List.map_cons, List.map_nil]); first | done | rfl | (simp only [List.length_drop, List.length_take]; rfl)) ?_; (with_reducible refine (merge_Pairs.calls _ _ y109 9 t112 _ ?side1 ?side2 A1.out).mono ?_); (case side1 => repeat (first | exact (Kd.N_reads' HO111.out).2.2 | (with_reducible refine Kd.C_alloc ?_ _) | (with_reducible refine Kd.C_drewN ?_ _) | (with_reducible refine Kd.C_drew ?_))); (case side2 => exact (Kd.N_reads' HO111.out).2.1); rintro e w59 ⟨v113, rfl, ho0, hb⟩; refine ⟨_, rfl, ?_⟩; have n0_ := Aside0.mk (Kd.N_elder' (by (with_reducible repeat (first | apply Kd.N_alloc | apply Kd.N_drewN | apply Kd.N_drew)); exact HO111.out) (Kd.R_base ho0) hb); have n1_ := Aside0.mk (Kd.R_lower ho0 (below_size (by repeat (first | (with_reducible first | exact HB.out | apply below_alloc | apply pw_below_drewN | apply below_drew1) | exact HB.out)))); have n2_ := Aside0.mk (below_step (by repeat (first | (with_reducible first | exact HB.out | apply below_alloc | apply pw_below_drewN | apply below_drew1) | exact HB.out)) hb); clear HO111; clear HB; have HO111 := n0_; have HO114 := n1_; have HB := n2_; clear n0_ n1_ n2_; (try clear hb); (try clear hb2); (try clear hk); (try clear hi); (try clear ho0)) | ((with_reducible refine gate_callee (f := 10) rfl ?_); refine goesL_ (some 14) rfl rfl Try.func10 (by kernel_rfl) rfl #[.slice Ao58 y109.length co58, .int .i64 2] rfl (by (try simp only [List.map_toArray, List.map_cons, List.map_nil]); first | done | rfl | (simp only [List.length_drop, List.length_take]; rfl)) ?_; (with_reducible refine (merge_Pairs.calls _ _ y109 2 t115 _ ?side1 ?side2 A2.out).mono ?_); (case side1 => repeat (first | exact (Kd.N_reads' HO111.out).2.2 | (with_reducible refine Kd.C_alloc ?_ _) | (with_reducible refine Kd.C_drewN ?_ _) | (with_reducible refine Kd.C_drew ?_))); (case side2 => exact (Kd.N_reads' HO111.out).2.1); rintro e w60 ⟨v116, rfl, ho0, hb⟩; refine ⟨_, rfl, ?_⟩; have n0_ := Aside0.mk (Kd.N_elder' (by (with_reducible repeat (first | apply Kd.N_alloc | apply Kd.N_drewN | apply Kd.N_drew)); exact HO111.out) (Kd.R_base ho0) hb); have n1_ := Aside0.mk (Kd.R_elder' (by (with_reducible repeat (first | apply Kd.R_alloc | apply Kd.R_drewN | apply Kd.R_drew)); exact HO114.out) (Kd.R_base ho0) hb); have n2_ := Aside0.mk (Kd.R_lower (Kd.R_new' ho0 (Kd.R_lt (by (with_reducible repeat (first | apply Kd.R_alloc | apply Kd.R_drewN | apply Kd.R_drew)); exact HO114.out))) (below_size (by repeat (first | (with_reducible first | exact HB.out | apply below_alloc | apply pw_below_drewN | apply below_drew1) | exact HB.out)))); have n3_ := Aside0.mk (below_step (by repeat (first | (with_reducible first | exact HB.out | apply below_alloc | apply pw_below_drewN | apply below_drew1) | exact HB.out)) hb); clear HO111; clear HO114; clear HB; have HO111 := n0_; have HO114 := n1_; have HO117 := n2_; have HB := n3_; clear n0_ n1_ n2_ n3_; (try clear hb); (try clear hb2); (try clear hk); (try clear hi); (try clear ho0); obtain ⟨Ao61, co61, eo61⟩ := Kd.R_slice HO114.out; subst eo61; have p118 : 0 ≤ (1 : Int) := (by omega); have q118 : 1 < (t112.length : Int) := of_decide_eq_true (by first | (with_reducible assumption) | assumption); obtain ⟨ad118, e118, hx118_0, hx118_1⟩ := at_T32 (Kd.R_reads' HO114.out).2.2 1 p118 q118; cases e118; (try simp only [show (1 : Int).toNat = 1 from rfl, Nat.reduceMul, Nat.reduceEqDiff, Go.Addr.add, ↓reduceIte] at hx118_0); (try simp only [show (1 : Int).toNat = 1 from rfl, Nat.reduceMul, Nat.reduceEqDiff, Go.Addr.add, ↓reduceIte] at hx118_1); have qi118 : (1 < t112.length) = True := eq_true (by omega); (try rw [show ((1 : Int)).toNat = 1 from rfl] at hx118_0); (try rw [show 1 * 2 = 2 from rfl] at hx118_0); (try rw [show ((1 : Int)).toNat = 1 from rfl] at hx118_1); (try rw [show 1 * 2 = 2 from rfl] at hx118_1); replace p118 := eq_true p118; replace q118 := eq_true q118; have p119 : 0 ≤ (3 : Int) := (by omega); have q119 : 3 < (t112.length : Int) := of_decide_eq_true (by first | (with_reducible assumption) | assumption); obtain ⟨ad119, e119, hx119_0, hx119_1⟩ := at_T32 (Kd.R_reads' HO114.out).2.2 3 p119 q119; obtain rfl : ad118 = ad119 := (by injection e119); (try simp only [show (3 : Int).toNat = 3 from rfl, Nat.reduceMul, Nat.reduceEqDiff, Go.Addr.add, ↓reduceIte] at hx119_0); (try simp only [show (3 : Int).toNat = 3 from rfl, Nat.reduceMul, Nat.reduceEqDiff, Go.Addr.add, ↓reduceIte] at hx119_1); have qi119 : (3 < t112.length) = True := eq_true (by omega); (try rw [show ((3 : Int)).toNat = 3 from rfl] at hx119_0); (try rw [show 3 * 2 = 6 from rfl] at hx119_0); (try rw [show ((3 : Int)).toNat = 3 from rfl] at hx119_1); (try rw [show 3 * 2 = 6 from rfl] at hx119_1); replace p119 := eq_true p119; replace q119 := eq_true q119; obtain ⟨Ao62, co62, eo62⟩ := Kd.R_slice HO117.out; subst eo62; have p120 : 0 ≤ (1 : Int) := (by omega); have q120 : 1 < (t115.length : Int) := of_decide_eq_true (by first | (with_reducible assumption) | assumption); obtain ⟨ad120, e120, hx120_0, hx120_1⟩ := at_T32 (Kd.R_reads' HO117.out).2.2 1 p120 q120; cases e120; (try simp only [show (1 : Int).toNat = 1 from rfl, Nat.reduceMul, Nat.reduceEqDiff, Go.Addr.add, ↓reduceIte] at hx120_0); (try simp only [show (1 : Int).toNat = 1 from rfl, Nat.reduceMul, Nat.reduceEqDiff, Go.Addr.add, ↓reduceIte] at hx120_1); have qi120 : (1 < t115.length) = True := eq_true (by omega); (try rw [show ((1 : Int)).toNat = 1 from rfl] at hx120_0); (try rw [show 1 * 2 = 2 from rfl] at hx120_0); (try rw [show ((1 : Int)).toNat = 1 from rfl] at hx120_1); (try rw [show 1 * 2 = 2 from rfl] at hx120_1); replace p120 := eq_true p120; replace q120 := eq_true q120) | (go_at_call 13; (with_reducible refine (merge_Rises.calls k _ _ t112 false _ ?side1 ?side2 A11.out).mono ?_); (case side1 => repeat (first | exact (Kd.R_reads' HO114.out).2.2 | (with_reducible refine Kd.C_alloc ?_ _) | (with_reducible refine Kd.C_drewN ?_ _) | (with_reducible refine Kd.C_drew ?_))); (case side2 => exact (Kd.R_reads' HO114.out).2.1); rintro e w' ⟨rfl, ⟨nd, rfl⟩⟩))
                    go_ret
                    exact ⟨by first | rfl | (simp [errW_none, errW_some] <;> rfl) | (simp [*, errW_none, errW_some] <;> rfl), by repeat (first | (with_reducible first | exact HB.out | apply below_alloc | apply pw_below_drewN | apply below_drew1) | exact HB.out)⟩
                · rw [if_neg c10] at H
                  have c10b0 : (((rd_T32 t115 1).f0) == 2) = false := beq_eq_false_iff_ne.mpr c10
                  have c10b1 : (((rd_T32 t115 1).f0) != 2) = true := bne_iff_ne.mpr c10
                  obtain rfl := Option.some.inj H
                  go_enter Try.func8, Try.ntmps8
                  go_wp2_with (first | ((with_reducible refine gate_dst (N := 6) rfl ?_); (try (refine gate_guard (by rfl) ?_; dsimp only)); refine Kd.R_lit k32 _ 32 ?hg (N := 6) ?hd (xs := ([(⟨1, 0⟩ : S32), (⟨4, 0⟩ : S32)] : List (S32))) (inner := [.int .u64 1, .int .u64 0, .int .u64 4, .int .u64 0]) (ok := fun _ => True) (okp := fun _ => True) ?hr ?hp (fun _ hk => hk) trivial (Below.refl _ _) (Nat.le_refl _) (by simp) ?_; (case hd => rfl); (case hg => rfl); (case hr => first | (go_simp; done) | (go_simp; rfl)); (case hp => exact (Reps.c2 (show Kd.M k32 _ _ _ (⟨1, 0⟩ : S32) [.int .u64 1, .int .u64 0] from (k32_mkM _ _ _ (⟨1, 0⟩ : S32) )) (Reps.c2 (show Kd.M k32 _ _ _ (⟨4, 0⟩ : S32) [.int .u64 4, .int .u64 0] from (k32_mkM _ _ _ (⟨4, 0⟩ : S32) )) (Reps.none _ _)))); intro v104 w63 ho64 hb hg_ hnew_; clear hg_ hnew_; (first | rw [← Ny103.out] at ho64 | (simp only [Int.reduceToNat] at ho64; rw [← Ny103.out] at ho64)); have n0_ := Aside0.mk (Kd.R_lower ho64 (below_size (by repeat (first | (with_reducible first | exact HB.out | apply below_alloc | apply pw_below_drewN | apply below_drew1) | exact HB.out)))); have n1_ := Aside0.mk (below_step (by repeat (first | (with_reducible first | exact HB.out | apply below_alloc | apply pw_below_drewN | apply below_drew1) | exact HB.out)) hb); clear HB; have HO105 := n0_; have HB := n1_; clear n0_ n1_; clear hb ho64) | ((with_reducible refine gate_dst (N := 9) rfl ?_); (try (refine gate_guard (by rfl) ?_; dsimp only)); refine Kd.R_lit k32 _ 32 ?hg (N := 9) ?hd (xs := ([(⟨2, 0⟩ : S32), (⟨3, 0⟩ : S32)] : List (S32))) (inner := [.int .u64 2, .int .u64 0, .int .u64 3, .int .u64 0]) (ok := fun _ => True) (okp := fun _ => True) ?hr ?hp (fun _ hk => hk) trivial (Below.refl _ _) (Nat.le_refl _) (by simp) ?_; (case hd => rfl); (case hg => rfl); (case hr => first | (go_simp; done) | (go_simp; rfl)); (case hp => exact (Reps.c2 (show Kd.M k32 _ _ _ (⟨2, 0⟩ : S32) [.int .u64 2, .int .u64 0] from (k32_mkM _ _ _ (⟨2, 0⟩ : S32) )) (Reps.c2 (show Kd.M k32 _ _ _ (⟨3, 0⟩ : S32) [.int .u64 3, .int .u64 0] from (k32_mkM _ _ _ (⟨3, 0⟩ : S32) )) (Reps.none _ _)))); intro v107 w65 ho66 hb hg_ hnew_; clear hg_ hnew_; (first | rw [← Ny106.out] at ho66 | (simp only [Int.reduceToNat] at ho66; rw [← Ny106.out] at ho66)); have n0_ := Aside0.mk (Kd.R_elder' (by (with_reducible repeat (first | apply Kd.R_alloc | apply Kd.R_drewN | apply Kd.R_drew)); exact HO105.out) (Kd.R_base ho66) hb); have n1_ := Aside0.mk (Kd.R_lower (Kd.R_new' ho66 (Kd.R_lt (by (with_reducible repeat (first | apply Kd.R_alloc | apply Kd.R_drewN | apply Kd.R_drew)); exact HO105.out))) (below_size (by repeat (first | (with_reducible first | exact HB.out | apply below_alloc | apply pw_below_drewN | apply below_drew1) | exact HB.out)))); have n2_ := Aside0.mk (below_step (by repeat (first | (with_reducible first | exact HB.out | apply below_alloc | apply pw_below_drewN | apply below_drew1) | exact HB.out)) hb); clear HO105; clear HB; have HO105 := n0_; have HO108 := n1_; have HB := n2_; clear n0_ n1_ n2_; clear hb ho66; obtain ⟨Ao67, co67, eo67⟩ := Kd.R_slice HO105.out; subst eo67; obtain ⟨Ao68, co68, eo68⟩ := Kd.R_slice HO108.out; subst eo68) | ((with_reducible refine gate_dst (N := 10) rfl ?_); (try (refine gate_guard (by rfl) ?_; dsimp only)); refine Kd.N_lit (Kd.slice 32 k32) _ 25 ?hg (N' := 10) ?hd (xs := ([y103, y106] : List (List (S32)))) (inner := [.slice Ao67 y103.length co67, .slice Ao68 y106.length co68]) (ok := (fun _ => True)) (okp := (fun _ => True)) ?hr ?hp (fun _ hk => hk) ((show ∀ k_, w65.heap.size ≤ k_ → (fun _ => True) k_ from fun k_ hk => trivial) _ (Nat.le_refl _)) (Below.refl _ _) (Nat.le_refl _) (by simp) ?_; (case hd => rfl); (case hg => rfl); (case hr => first | (go_simp; done) | (go_simp; rfl)); (case hp => exact (Reps.one (show Kd.FK (Kd.slice 32 k32) _ _ y103 [.slice Ao67 y103.length co67] from (Kd.FK_slice_mk (Kd.R_reads' (Kd.R_mono (ok' := (fun _ => True)) (HO105.out) (fun k_ hk => trivial))).2.1 (Kd.R_F (Kd.R_mono (ok' := (fun _ => True)) (HO105.out) (fun k_ hk => trivial))))) (Reps.one (show Kd.FK (Kd.slice 32 k32) _ _ y106 [.slice Ao68 y106.length co68] from (Kd.FK_slice_mk (Kd.R_reads' (Kd.R_mono (ok' := (fun _ => True)) (HO108.out) (fun k_ hk => trivial))).2.1 (Kd.R_F (Kd.R_mono (ok' := (fun _ => True)) (HO108.out) (fun k_ hk => trivial))))) (Reps.none _ _)))); intro v110 w69 ho70 hb hg_ hnew_; clear hg_ hnew_; (first | rw [← Ny109.out] at ho70 | (simp only [Int.reduceToNat] at ho70; rw [← Ny109.out] at ho70)); have n0_ := Aside0.mk (Kd.N_lower ho70 (below_size (by repeat (first | (with_reducible first | exact HB.out | apply below_alloc | apply pw_below_drewN | apply below_drew1) | exact HB.out)))); have n1_ := Aside0.mk (below_step (by repeat (first | (with_reducible first | exact HB.out | apply below_alloc | apply pw_below_drewN | apply below_drew1) | exact HB.out)) hb); clear HB; clear HO105; clear HO108; have HO111 := n0_; have HB := n1_; clear n0_ n1_; clear hb ho70; obtain ⟨Ao71, co71, eo71⟩ := Kd.N_slice HO111.out; subst eo71) | ((with_reducible refine gate_callee (f := 10) rfl ?_); refine goesL_ (some 12) rfl rfl Try.func10 (by kernel_rfl) rfl #[.slice Ao71 y109.length co71, .int .i64 9] rfl (by (try simp only [List.map_toArray, List.map_cons, List.map_nil]); first | done | rfl | (simp only [List.length_drop, List.length_take]; rfl)) ?_; (with_reducible refine (merge_Pairs.calls _ _ y109 9 t112 _ ?side1 ?side2 A1.out).mono ?_); (case side1 => repeat (first | exact (Kd.N_reads' HO111.out).2.2 | (with_reducible refine Kd.C_alloc ?_ _) | (with_reducible refine Kd.C_drewN ?_ _) | (with_reducible refine Kd.C_drew ?_))); (case side2 => exact (Kd.N_reads' HO111.out).2.1); rintro e w72 ⟨v113, rfl, ho0, hb⟩; refine ⟨_, rfl, ?_⟩; have n0_ := Aside0.mk (Kd.N_elder' (by (with_reducible repeat (first | apply Kd.N_alloc | apply Kd.N_drewN | apply Kd.N_drew)); exact HO111.out) (Kd.R_base ho0) hb); have n1_ := Aside0.mk (Kd.R_lower ho0 (below_size (by repeat (first | (with_reducible first | exact HB.out | apply below_alloc | apply pw_below_drewN | apply below_drew1) | exact HB.out)))); have n2_ := Aside0.mk (below_step (by repeat (first | (with_reducible first | exact HB.out | apply below_alloc | apply pw_below_drewN | apply below_drew1) | exact HB.out)) hb); clear HO111; clear HB; have HO111 := n0_; have HO114 := n1_; have HB := n2_; clear n0_ n1_ n2_; (try clear hb); (try clear hb2); (try clear hk); (try clear hi); (try clear ho0)) | ((with_reducible refine gate_callee (f := 10) rfl ?_); refine goesL_ (some 14) rfl rfl Try.func10 (by kernel_rfl) rfl #[.slice Ao71 y109.length co71, .int .i64 2] rfl (by (try simp only [List.map_toArray, List.map_cons, List.map_nil]); first | done | rfl | (simp only [List.length_drop, List.length_take]; rfl)) ?_; (with_reducible refine (merge_Pairs.calls _ _ y109 2 t115 _ ?side1 ?side2 A2.out).mono ?_); (case side1 => repeat (first | exact (Kd.N_reads' HO111.out).2.2 | (with_reducible refine Kd.C_alloc ?_ _) | (with_reducible refine Kd.C_drewN ?_ _) | (with_reducible refine Kd.C_drew ?_))); (case side2 => exact (Kd.N_reads' HO111.out).2.1); rintro e w73 ⟨v116, rfl, ho0, hb⟩; refine ⟨_, rfl, ?_⟩; have n0_ := Aside0.mk (Kd.N_elder' (by (with_reducible repeat (first | apply Kd.N_alloc | apply Kd.N_drewN | apply Kd.N_drew)); exact HO111.out) (Kd.R_base ho0) hb); have n1_ := Aside0.mk (Kd.R_elder' (by (with_reducible repeat (first | apply Kd.R_alloc | apply Kd.R_drewN | apply Kd.R_drew)); exact HO114.out) (Kd.R_base ho0) hb); have n2_ := Aside0.mk (Kd.R_lower (Kd.R_new' ho0 (Kd.R_lt (by (with_reducible repeat (first | apply Kd.R_alloc | apply Kd.R_drewN | apply Kd.R_drew)); exact HO114.out))) (below_size (by repeat (first | (with_reducible first | exact HB.out | apply below_alloc | apply pw_below_drewN | apply below_drew1) | exact HB.out)))); have n3_ := Aside0.mk (below_step (by repeat (first | (with_reducible first | exact HB.out | apply below_alloc | apply pw_below_drewN | apply below_drew1) | exact HB.out)) hb); clear HO111; clear HO114; clear HB; have HO111 := n0_; have HO114 := n1_; have HO117 := n2_; have HB := n3_; clear n0_ n1_ n2_ n3_; (try clear hb); (try clear hb2); (try clear hk); (try clear hi); (try clear ho0); obtain ⟨Ao74, co74, eo74⟩ := Kd.R_slice HO114.out; subst eo74; have p118 : 0 ≤ (1 : Int) := (by omega); have q118 : 1 < (t112.length : Int) := of_decide_eq_true (by first | (with_reducible assumption) | assumption); obtain ⟨ad118, e118, hx118_0, hx118_1⟩ := at_T32 (Kd.R_reads' HO114.out).2.2 1 p118 q118; cases e118; (try simp only [show (1 : Int).toNat = 1 from rfl, Nat.reduceMul, Nat.reduceEqDiff, Go.Addr.add, ↓reduceIte] at hx118_0); (try simp only [show (1 : Int).toNat = 1 from rfl, Nat.reduceMul, Nat.reduceEqDiff, Go.Addr.add, ↓reduceIte] at hx118_1); have qi118 : (1 < t112.length) = True := eq_true (by omega); (try rw [show ((1 : Int)).toNat = 1 from rfl] at hx118_0); (try rw [show 1 * 2 = 2 from rfl] at hx118_0); (try rw [show ((1 : Int)).toNat = 1 from rfl] at hx118_1); (try rw [show 1 * 2 = 2 from rfl] at hx118_1); replace p118 := eq_true p118; replace q118 := eq_true q118; have p119 : 0 ≤ (3 : Int) := (by omega); have q119 : 3 < (t112.length : Int) := of_decide_eq_true (by first | (with_reducible assumption) | assumption); obtain ⟨ad119, e119, hx119_0, hx119_1⟩ := at_T32 (Kd.R_reads' HO114.out).2.2 3 p119 q119; obtain rfl : ad118 = ad119 := (by injection e119); (try simp only [show (3 : Int).toNat = 3 from rfl, Nat.reduceMul, Nat.reduceEqDiff, Go.Addr.add, ↓reduceIte] at hx119_0); (try simp only [show (3 : Int).toNat = 3 from rfl, Nat.reduceMul, Nat.reduceEqDiff, Go.Addr.add, ↓reduceIte] at hx119_1); have qi119 : (3 < t112.length) = True := eq_true (by omega); (try rw [show ((3 : Int)).toNat = 3 from rfl] at hx119_0); (try rw [show 3 * 2 = 6 from rfl] at hx119_0); (try rw [show ((3 : Int)).toNat = 3 from rfl] at hx119_1); (try rw [show 3 * 2 = 6 from rfl] at hx119_1); replace p119 := eq_true p119; replace q119 := eq_true q119; obtain ⟨Ao75, co75, eo75⟩ := Kd.R_slice HO117.out; subst eo75; have p120 : 0 ≤ (1 : Int) := (by omega); have q120 : 1 < (t115.length : Int) := of_decide_eq_true (by first | (with_reducible assumption) | assumption); obtain ⟨ad120, e120, hx120_0, hx120_1⟩ := at_T32 (Kd.R_reads' HO117.out).2.2 1 p120 q120; cases e120; (try simp only [show (1 : Int).toNat = 1 from rfl, Nat.reduceMul, Nat.reduceEqDiff, Go.Addr.add, ↓reduceIte] at hx120_0); (try simp only [show (1 : Int).toNat = 1 from rfl, Nat.reduceMul, Nat.reduceEqDiff, Go.Addr.add, ↓reduceIte] at hx120_1); have qi120 : (1 < t115.length) = True := eq_true (by omega); (try rw [show ((1 : Int)).toNat = 1 from rfl] at hx120_0); (try rw [show 1 * 2 = 2 from rfl] at hx120_0); (try rw [show ((1 : Int)).toNat = 1 from rfl] at hx120_1); (try rw [show 1 * 2 = 2 from rfl] at hx120_1); replace p120 := eq_true p120; replace q120 := eq_true q120))
                  go_ret
                  exact ⟨by first | rfl | (simp [errW_none, errW_some] <;> rfl) | (simp [*, errW_none, errW_some] <;> rfl), by repeat (first | (with_reducible first | exact HB.out | apply below_alloc | apply pw_below_drewN | apply below_drew1) | exact HB.out)⟩
              · rw [if_neg c9] at H
                exact absurd H (by simp)
            · rw [if_neg c8] at H
              have c8b0 : ((t115.length : Int) == 2) = false := beq_eq_false_iff_ne.mpr c8
              have c8b1 : ((t115.length : Int) != 2) = true := bne_iff_ne.mpr c8
              obtain rfl := Option.some.inj H
              go_enter Try.func8, Try.ntmps8
              go_wp2_with (first | ((with_reducible refine gate_dst (N := 6) rfl ?_); (try (refine gate_guard (by rfl) ?_; dsimp only)); refine Kd.R_lit k32 _ 32 ?hg (N := 6) ?hd (xs := ([(⟨1, 0⟩ : S32), (⟨4, 0⟩ : S32)] : List (S32))) (inner := [.int .u64 1, .int .u64 0, .int .u64 4, .int .u64 0]) (ok := fun _ => True) (okp := fun _ => True) ?hr ?hp (fun _ hk => hk) trivial (Below.refl _ _) (Nat.le_refl _) (by simp) ?_; (case hd => rfl); (case hg => rfl); (case hr => first | (go_simp; done) | (go_simp; rfl)); (case hp => exact (Reps.c2 (show Kd.M k32 _ _ _ (⟨1, 0⟩ : S32) [.int .u64 1, .int .u64 0] from (k32_mkM _ _ _ (⟨1, 0⟩ : S32) )) (Reps.c2 (show Kd.M k32 _ _ _ (⟨4, 0⟩ : S32) [.int .u64 4, .int .u64 0] from (k32_mkM _ _ _ (⟨4, 0⟩ : S32) )) (Reps.none _ _)))); intro v104 w76 ho77 hb hg_ hnew_; clear hg_ hnew_; (first | rw [← Ny103.out] at ho77 | (simp only [Int.reduceToNat] at ho77; rw [← Ny103.out] at ho77)); have n0_ := Aside0.mk (Kd.R_lower ho77 (below_size (by repeat (first | (with_reducible first | exact HB.out | apply below_alloc | apply pw_below_drewN | apply below_drew1) | exact HB.out)))); have n1_ := Aside0.mk (below_step (by repeat (first | (with_reducible first | exact HB.out | apply below_alloc | apply pw_below_drewN | apply below_drew1) | exact HB.out)) hb); clear HB; have HO105 := n0_; have HB := n1_; clear n0_ n1_; clear hb ho77) | ((with_reducible refine gate_dst (N := 9) rfl ?_); (try (refine gate_guard (by rfl) ?_; dsimp only)); refine Kd.R_lit k32 _ 32 ?hg (N := 9) ?hd (xs := ([(⟨2, 0⟩ : S32), (⟨3, 0⟩ : S32)] : List (S32))) (inner := [.int .u64 2, .int .u64 0, .int .u64 3, .int .u64 0]) (ok := fun _ => True) (okp := fun _ => True) ?hr ?hp (fun _ hk => hk) trivial (Below.refl _ _) (Nat.le_refl _) (by simp) ?_; (case hd => rfl); (case hg => rfl); (case hr => first | (go_simp; done) | (go_simp; rfl)); (case hp => exact (Reps.c2 (show Kd.M k32 _ _ _ (⟨2, 0⟩ : S32) [.int .u64 2, .int .u64 0] from (k32_mkM _ _ _ (⟨2, 0⟩ : S32) )) (Reps.c2 (show Kd.M k32 _ _ _ (⟨3, 0⟩ : S32) [.int .u64 3, .int .u64 0] from (k32_mkM _ _ _ (⟨3, 0⟩ : S32) )) (Reps.none _ _)))); intro v107 w78 ho79 hb hg_ hnew_; clear hg_ hnew_; (first | rw [← Ny106.out] at ho79 | (simp only [Int.reduceToNat] at ho79; rw [← Ny106.out] at ho79)); have n0_ := Aside0.mk (Kd.R_elder' (by (with_reducible repeat (first | apply Kd.R_alloc | apply Kd.R_drewN | apply Kd.R_drew)); exact HO105.out) (Kd.R_base ho79) hb); have n1_ := Aside0.mk (Kd.R_lower (Kd.R_new' ho79 (Kd.R_lt (by (with_reducible repeat (first | apply Kd.R_alloc | apply Kd.R_drewN | apply Kd.R_drew)); exact HO105.out))) (below_size (by repeat (first | (with_reducible first | exact HB.out | apply below_alloc | apply pw_below_drewN | apply below_drew1) | exact HB.out)))); have n2_ := Aside0.mk (below_step (by repeat (first | (with_reducible first | exact HB.out | apply below_alloc | apply pw_below_drewN | apply below_drew1) | exact HB.out)) hb); clear HO105; clear HB; have HO105 := n0_; have HO108 := n1_; have HB := n2_; clear n0_ n1_ n2_; clear hb ho79; obtain ⟨Ao80, co80, eo80⟩ := Kd.R_slice HO105.out; subst eo80; obtain ⟨Ao81, co81, eo81⟩ := Kd.R_slice HO108.out; subst eo81) | ((with_reducible refine gate_dst (N := 10) rfl ?_); (try (refine gate_guard (by rfl) ?_; dsimp only)); refine Kd.N_lit (Kd.slice 32 k32) _ 25 ?hg (N' := 10) ?hd (xs := ([y103, y106] : List (List (S32)))) (inner := [.slice Ao80 y103.length co80, .slice Ao81 y106.length co81]) (ok := (fun _ => True)) (okp := (fun _ => True)) ?hr ?hp (fun _ hk => hk) ((show ∀ k_, w78.heap.size ≤ k_ → (fun _ => True) k_ from fun k_ hk => trivial) _ (Nat.le_refl _)) (Below.refl _ _) (Nat.le_refl _) (by simp) ?_; (case hd => rfl); (case hg => rfl); (case hr => first | (go_simp; done) | (go_simp; rfl)); (case hp => exact (Reps.one (show Kd.FK (Kd.slice 32 k32) _ _ y103 [.slice Ao80 y103.length co80] from (Kd.FK_slice_mk (Kd.R_reads' (Kd.R_mono (ok' := (fun _ => True)) (HO105.out) (fun k_ hk => trivial))).2.1 (Kd.R_F (Kd.R_mono (ok' := (fun _ => True)) (HO105.out) (fun k_ hk => trivial))))) (Reps.one (show Kd.FK (Kd.slice 32 k32) _ _ y106 [.slice Ao81 y106.length co81] from (Kd.FK_slice_mk (Kd.R_reads' (Kd.R_mono (ok' := (fun _ => True)) (HO108.out) (fun k_ hk => trivial))).2.1 (Kd.R_F (Kd.R_mono (ok' := (fun _ => True)) (HO108.out) (fun k_ hk => trivial))))) (Reps.none _ _)))); intro v110 w82 ho83 hb hg_ hnew_; clear hg_ hnew_; (first | rw [← Ny109.out] at ho83 | (simp only [Int.reduceToNat] at ho83; rw [← Ny109.out] at ho83)); have n0_ := Aside0.mk (Kd.N_lower ho83 (below_size (by repeat (first | (with_reducible first | exact HB.out | apply below_alloc | apply pw_below_drewN | apply below_drew1) | exact HB.out)))); have n1_ := Aside0.mk (below_step (by repeat (first | (with_reducible first | exact HB.out | apply below_alloc | apply pw_below_drewN | apply below_drew1) | exact HB.out)) hb); clear HB; clear HO105; clear HO108; have HO111 := n0_; have HB := n1_; clear n0_ n1_; clear hb ho83; obtain ⟨Ao84, co84, eo84⟩ := Kd.N_slice HO111.out; subst eo84) | ((with_reducible refine gate_callee (f := 10) rfl ?_); refine goesL_ (some 12) rfl rfl Try.func10 (by kernel_rfl) rfl #[.slice Ao84 y109.length co84, .int .i64 9] rfl (by (try simp only [List.map_toArray, List.map_cons, List.map_nil]); first | done | rfl | (simp only [List.length_drop, List.length_take]; rfl)) ?_; (with_reducible refine (merge_Pairs.calls _ _ y109 9 t112 _ ?side1 ?side2 A1.out).mono ?_); (case side1 => repeat (first | exact (Kd.N_reads' HO111.out).2.2 | (with_reducible refine Kd.C_alloc ?_ _) | (with_reducible refine Kd.C_drewN ?_ _) | (with_reducible refine Kd.C_drew ?_))); (case side2 => exact (Kd.N_reads' HO111.out).2.1); rintro e w85 ⟨v113, rfl, ho0, hb⟩; refine ⟨_, rfl, ?_⟩; have n0_ := Aside0.mk (Kd.N_elder' (by (with_reducible repeat (first | apply Kd.N_alloc | apply Kd.N_drewN | apply Kd.N_drew)); exact HO111.out) (Kd.R_base ho0) hb); have n1_ := Aside0.mk (Kd.R_lower ho0 (below_size (by repeat (first | (with_reducible first | exact HB.out | apply below_alloc | apply pw_below_drewN | apply below_drew1) | exact HB.out)))); have n2_ := Aside0.mk (below_step (by repeat (first | (with_reducible first | exact HB.out | apply below_alloc | apply pw_below_drewN | apply below_drew1) | exact HB.out)) hb); clear HO111; clear HB; have HO111 := n0_; have HO114 := n1_; have HB := n2_; clear n0_ n1_ n2_; (try clear hb); (try clear hb2); (try clear hk); (try clear hi); (try clear ho0)) | ((with_reducible refine gate_callee (f := 10) rfl ?_); refine goesL_ (some 14) rfl rfl Try.func10 (by kernel_rfl) rfl #[.slice Ao84 y109.length co84, .int .i64 2] rfl (by (try simp only [List.map_toArray, List.map_cons, List.map_nil]); first | done | rfl | (simp only [List.length_drop, List.length_take]; rfl)) ?_; (with_reducible refine (merge_Pairs.calls _ _ y109 2 t115 _ ?side1 ?side2 A2.out).mono ?_); (case side1 => repeat (first | exact (Kd.N_reads' HO111.out).2.2 | (with_reducible refine Kd.C_alloc ?_ _) | (with_reducible refine Kd.C_drewN ?_ _) | (with_reducible refine Kd.C_drew ?_))); (case side2 => exact (Kd.N_reads' HO111.out).2.1); rintro e w86 ⟨v116, rfl, ho0, hb⟩; refine ⟨_, rfl, ?_⟩; have n0_ := Aside0.mk (Kd.N_elder' (by (with_reducible repeat (first | apply Kd.N_alloc | apply Kd.N_drewN | apply Kd.N_drew)); exact HO111.out) (Kd.R_base ho0) hb); have n1_ := Aside0.mk (Kd.R_elder' (by (with_reducible repeat (first | apply Kd.R_alloc | apply Kd.R_drewN | apply Kd.R_drew)); exact HO114.out) (Kd.R_base ho0) hb); have n2_ := Aside0.mk (Kd.R_lower (Kd.R_new' ho0 (Kd.R_lt (by (with_reducible repeat (first | apply Kd.R_alloc | apply Kd.R_drewN | apply Kd.R_drew)); exact HO114.out))) (below_size (by repeat (first | (with_reducible first | exact HB.out | apply below_alloc | apply pw_below_drewN | apply below_drew1) | exact HB.out)))); have n3_ := Aside0.mk (below_step (by repeat (first | (with_reducible first | exact HB.out | apply below_alloc | apply pw_below_drewN | apply below_drew1) | exact HB.out)) hb); clear HO111; clear HO114; clear HB; have HO111 := n0_; have HO114 := n1_; have HO117 := n2_; have HB := n3_; clear n0_ n1_ n2_ n3_; (try clear hb); (try clear hb2); (try clear hk); (try clear hi); (try clear ho0); obtain ⟨Ao87, co87, eo87⟩ := Kd.R_slice HO114.out; subst eo87; have p118 : 0 ≤ (1 : Int) := (by omega); have q118 : 1 < (t112.length : Int) := of_decide_eq_true (by first | (with_reducible assumption) | assumption); obtain ⟨ad118, e118, hx118_0, hx118_1⟩ := at_T32 (Kd.R_reads' HO114.out).2.2 1 p118 q118; cases e118; (try simp only [show (1 : Int).toNat = 1 from rfl, Nat.reduceMul, Nat.reduceEqDiff, Go.Addr.add, ↓reduceIte] at hx118_0); (try simp only [show (1 : Int).toNat = 1 from rfl, Nat.reduceMul, Nat.reduceEqDiff, Go.Addr.add, ↓reduceIte] at hx118_1); have qi118 : (1 < t112.length) = True := eq_true (by omega); (try rw [show ((1 : Int)).toNat = 1 from rfl] at hx118_0); (try rw [show 1 * 2 = 2 from rfl] at hx118_0); (try rw [show ((1 : Int)).toNat = 1 from rfl] at hx118_1); (try rw [show 1 * 2 = 2 from rfl] at hx118_1); replace p118 := eq_true p118; replace q118 := eq_true q118; have p119 : 0 ≤ (3 : Int) := (by omega); have q119 : 3 < (t112.length : Int) := of_decide_eq_true (by first | (with_reducible assumption) | assumption); obtain ⟨ad119, e119, hx119_0, hx119_1⟩ := at_T32 (Kd.R_reads' HO114.out).2.2 3 p119 q119; obtain rfl : ad118 = ad119 := (by injection e119); (try simp only [show (3 : Int).toNat = 3 from rfl, Nat.reduceMul, Nat.reduceEqDiff, Go.Addr.add, ↓reduceIte] at hx119_0); (try simp only [show (3 : Int).toNat = 3 from rfl, Nat.reduceMul, Nat.reduceEqDiff, Go.Addr.add, ↓reduceIte] at hx119_1); have qi119 : (3 < t112.length) = True := eq_true (by omega); (try rw [show ((3 : Int)).toNat = 3 from rfl] at hx119_0); (try rw [show 3 * 2 = 6 from rfl] at hx119_0); (try rw [show ((3 : Int)).toNat = 3 from rfl] at hx119_1); (try rw [show 3 * 2 = 6 from rfl] at hx119_1); replace p119 := eq_true p119; replace q119 := eq_true q119; obtain ⟨Ao88, co88, eo88⟩ := Kd.R_slice HO117.out; subst eo88))
              go_ret
              exact ⟨by first | rfl | (simp [errW_none, errW_some] <;> rfl) | (simp [*, errW_none, errW_some] <;> rfl), by repeat (first | (with_reducible first | exact HB.out | apply below_alloc | apply pw_below_drewN | apply below_drew1) | exact HB.out)⟩
          · rw [if_neg c7] at H
            have c7b0 : (((rd_T32 t112 3).f0) == 4) = false := beq_eq_false_iff_ne.mpr c7
            have c7b1 : (((rd_T32 t112 3).f0) != 4) = true := bne_iff_ne.mpr c7
            obtain rfl := Option.some.inj H
            go_enter Try.func8, Try.ntmps8
            go_wp2_with (first | ((with_reducible refine gate_dst (N := 6) rfl ?_); (try (refine gate_guard (by rfl) ?_; dsimp only)); refine Kd.R_lit k32 _ 32 ?hg (N := 6) ?hd (xs := ([(⟨1, 0⟩ : S32), (⟨4, 0⟩ : S32)] : List (S32))) (inner := [.int .u64 1, .int .u64 0, .int .u64 4, .int .u64 0]) (ok := fun _ => True) (okp := fun _ => True) ?hr ?hp (fun _ hk => hk) trivial (Below.refl _ _) (Nat.le_refl _) (by simp) ?_; (case hd => rfl); (case hg => rfl); (case hr => first | (go_simp; done) | (go_simp; rfl)); (case hp => exact (Reps.c2 (show Kd.M k32 _ _ _ (⟨1, 0⟩ : S32) [.int .u64 1, .int .u64 0] from (k32_mkM _ _ _ (⟨1, 0⟩ : S32) )) (Reps.c2 (show Kd.M k32 _ _ _ (⟨4, 0⟩ : S32) [.int .u64 4, .int .u64 0] from (k32_mkM _ _ _ (⟨4, 0⟩ : S32) )) (Reps.none _ _)))); intro v104 w89 ho90 hb hg_ hnew_; clear hg_ hnew_; (first | rw [← Ny103.out] at ho90 | (simp only [Int.reduceToNat] at ho90; rw [← Ny103.out] at ho90)); have n0_ := Aside0.mk (Kd.R_lower ho90 (below_size (by repeat (first | (with_reducible first | exact HB.out | apply below_alloc | apply pw_below_drewN | apply below_drew1) | exact HB.out)))); have n1_ := Aside0.mk (below_step (by repeat (first | (with_reducible first | exact HB.out | apply below_alloc | apply pw_below_drewN | apply below_drew1) | exact HB.out)) hb); clear HB; have HO105 := n0_; have HB := n1_; clear n0_ n1_; clear hb ho90) | ((with_reducible refine gate_dst (N := 9) rfl ?_); (try (refine gate_guard (by rfl) ?_; dsimp only)); refine Kd.R_lit k32 _ 32 ?hg (N := 9) ?hd (xs := ([(⟨2, 0⟩ : S32), (⟨3, 0⟩ : S32)] : List (S32))) (inner := [.int .u64 2, .int .u64 0, .int .u64 3, .int .u64 0]) (ok := fun _ => True) (okp := fun _ => True) ?hr ?hp (fun _ hk => hk) trivial (Below.refl _ _) (Nat.le_refl _) (by simp) ?_; (case hd => rfl); (case hg => rfl); (case hr => first | (go_simp; done) | (go_simp; rfl)); (case hp => exact (Reps.c2 (show Kd.M k32 _ _ _ (⟨2, 0⟩ : S32) [.int .u64 2, .int .u64 0] from (k32_mkM _ _ _ (⟨2, 0⟩ : S32) )) (Reps.c2 (show Kd.M k32 _ _ _ (⟨3, 0⟩ : S32) [.int .u64 3, .int .u64 0] from (k32_mkM _ _ _ (⟨3, 0⟩ : S32) )) (Reps.none _ _)))); intro v107 w91 ho92 hb hg_ hnew_; clear hg_ hnew_; (first | rw [← Ny106.out] at ho92 | (simp only [Int.reduceToNat] at ho92; rw [← Ny106.out] at ho92)); have n0_ := Aside0.mk (Kd.R_elder' (by (with_reducible repeat (first | apply Kd.R_alloc | apply Kd.R_drewN | apply Kd.R_drew)); exact HO105.out) (Kd.R_base ho92) hb); have n1_ := Aside0.mk (Kd.R_lower (Kd.R_new' ho92 (Kd.R_lt (by (with_reducible repeat (first | apply Kd.R_alloc | apply Kd.R_drewN | apply Kd.R_drew)); exact HO105.out))) (below_size (by repeat (first | (with_reducible first | exact HB.out | apply below_alloc | apply pw_below_drewN | apply below_drew1) | exact HB.out)))); have n2_ := Aside0.mk (below_step (by repeat (first | (with_reducible first | exact HB.out | apply below_alloc | apply pw_below_drewN | apply below_drew1) | exact HB.out)) hb); clear HO105; clear HB; have HO105 := n0_; have HO108 := n1_; have HB := n2_; clear n0_ n1_ n2_; clear hb ho92; obtain ⟨Ao93, co93, eo93⟩ := Kd.R_slice HO105.out; subst eo93; obtain ⟨Ao94, co94, eo94⟩ := Kd.R_slice HO108.out; subst eo94) | ((with_reducible refine gate_dst (N := 10) rfl ?_); (try (refine gate_guard (by rfl) ?_; dsimp only)); refine Kd.N_lit (Kd.slice 32 k32) _ 25 ?hg (N' := 10) ?hd (xs := ([y103, y106] : List (List (S32)))) (inner := [.slice Ao93 y103.length co93, .slice Ao94 y106.length co94]) (ok := (fun _ => True)) (okp := (fun _ => True)) ?hr ?hp (fun _ hk => hk) ((show ∀ k_, w91.heap.size ≤ k_ → (fun _ => True) k_ from fun k_ hk => trivial) _ (Nat.le_refl _)) (Below.refl _ _) (Nat.le_refl _) (by simp) ?_; (case hd => rfl); (case hg => rfl); (case hr => first | (go_simp; done) | (go_simp; rfl)); (case hp => exact (Reps.one (show Kd.FK (Kd.slice 32 k32) _ _ y103 [.slice Ao93 y103.length co93] from (Kd.FK_slice_mk (Kd.R_reads' (Kd.R_mono (ok' := (fun _ => True)) (HO105.out) (fun k_ hk => trivial))).2.1 (Kd.R_F (Kd.R_mono (ok' := (fun _ => True)) (HO105.out) (fun k_ hk => trivial))))) (Reps.one (show Kd.FK (Kd.slice 32 k32) _ _ y106 [.slice Ao94 y106.length co94] from (Kd.FK_slice_mk (Kd.R_reads' (Kd.R_mono (ok' := (fun _ => True)) (HO108.out) (fun k_ hk => trivial))).2.1 (Kd.R_F (Kd.R_mono (ok' := (fun _ => True)) (HO108.out) (fun k_ hk => trivial))))) (Reps.none _ _)))); intro v110 w95 ho96 hb hg_ hnew_; clear hg_ hnew_; (first | rw [← Ny109.out] at ho96 | (simp only [Int.reduceToNat] at ho96; rw [← Ny109.out] at ho96)); have n0_ := Aside0.mk (Kd.N_lower ho96 (below_size (by repeat (first | (with_reducible first | exact HB.out | apply below_alloc | apply pw_below_drewN | apply below_drew1) | exact HB.out)))); have n1_ := Aside0.mk (below_step (by repeat (first | (with_reducible first | exact HB.out | apply below_alloc | apply pw_below_drewN | apply below_drew1) | exact HB.out)) hb); clear HB; clear HO105; clear HO108; have HO111 := n0_; have HB := n1_; clear n0_ n1_; clear hb ho96; obtain ⟨Ao97, co97, eo97⟩ := Kd.N_slice HO111.out; subst eo97) | ((with_reducible refine gate_callee (f := 10) rfl ?_); refine goesL_ (some 12) rfl rfl Try.func10 (by kernel_rfl) rfl #[.slice Ao97 y109.length co97, .int .i64 9] rfl (by (try simp only [List.map_toArray, List.map_cons, List.map_nil]); first | done | rfl | (simp only [List.length_drop, List.length_take]; rfl)) ?_; (with_reducible refine (merge_Pairs.calls _ _ y109 9 t112 _ ?side1 ?side2 A1.out).mono ?_); (case side1 => repeat (first | exact (Kd.N_reads' HO111.out).2.2 | (with_reducible refine Kd.C_alloc ?_ _) | (with_reducible refine Kd.C_drewN ?_ _) | (with_reducible refine Kd.C_drew ?_))); (case side2 => exact (Kd.N_reads' HO111.out).2.1); rintro e w98 ⟨v113, rfl, ho0, hb⟩; refine ⟨_, rfl, ?_⟩; have n0_ := Aside0.mk (Kd.N_elder' (by (with_reducible repeat (first | apply Kd.N_alloc | apply Kd.N_drewN | apply Kd.N_drew)); exact HO111.out) (Kd.R_base ho0) hb); have n1_ := Aside0.mk (Kd.R_lower ho0 (below_size (by repeat (first | (with_reducible first | exact HB.out | apply below_alloc | apply pw_below_drewN | apply below_drew1) | exact HB.out)))); have n2_ := Aside0.mk (below_step (by repeat (first | (with_reducible first | exact HB.out | apply below_alloc | apply pw_below_drewN | apply below_drew1) | exact HB.out)) hb); clear HO111; clear HB; have HO111 := n0_; have HO114 := n1_; have HB := n2_; clear n0_ n1_ n2_; (try clear hb); (try clear hb2); (try clear hk); (try clear hi); (try clear ho0)) | ((with_reducible refine gate_callee (f := 10) rfl ?_); refine goesL_ (some 14) rfl rfl Try.func10 (by kernel_rfl) rfl #[.slice Ao97 y109.length co97, .int .i64 2] rfl (by (try simp only [List.map_toArray, List.map_cons, List.map_nil]); first | done | rfl | (simp only [List.length_drop, List.length_take]; rfl)) ?_; (with_reducible refine (merge_Pairs.calls _ _ y109 2 t115 _ ?side1 ?side2 A2.out).mono ?_); (case side1 => repeat (first | exact (Kd.N_reads' HO111.out).2.2 | (with_reducible refine Kd.C_alloc ?_ _) | (with_reducible refine Kd.C_drewN ?_ _) | (with_reducible refine Kd.C_drew ?_))); (case side2 => exact (Kd.N_reads' HO111.out).2.1); rintro e w99 ⟨v116, rfl, ho0, hb⟩; refine ⟨_, rfl, ?_⟩; have n0_ := Aside0.mk (Kd.N_elder' (by (with_reducible repeat (first | apply Kd.N_alloc | apply Kd.N_drewN | apply Kd.N_drew)); exact HO111.out) (Kd.R_base ho0) hb); have n1_ := Aside0.mk (Kd.R_elder' (by (with_reducible repeat (first | apply Kd.R_alloc | apply Kd.R_drewN | apply Kd.R_drew)); exact HO114.out) (Kd.R_base ho0) hb); have n2_ := Aside0.mk (Kd.R_lower (Kd.R_new' ho0 (Kd.R_lt (by (with_reducible repeat (first | apply Kd.R_alloc | apply Kd.R_drewN | apply Kd.R_drew)); exact HO114.out))) (below_size (by repeat (first | (with_reducible first | exact HB.out | apply below_alloc | apply pw_below_drewN | apply below_drew1) | exact HB.out)))); have n3_ := Aside0.mk (below_step (by repeat (first | (with_reducible first | exact HB.out | apply below_alloc | apply pw_below_drewN | apply below_drew1) | exact HB.out)) hb); clear HO111; clear HO114; clear HB; have HO111 := n0_; have HO114 := n1_; have HO117 := n2_; have HB := n3_; clear n0_ n1_ n2_ n3_; (try clear hb); (try clear hb2); (try clear hk); (try clear hi); (try clear ho0); obtain ⟨Ao100, co100, eo100⟩ := Kd.R_slice HO114.out; subst eo100; have p118 : 0 ≤ (1 : Int) := (by omega); have q118 : 1 < (t112.length : Int) := of_decide_eq_true (by first | (with_reducible assumption) | assumption); obtain ⟨ad118, e118, hx118_0, hx118_1⟩ := at_T32 (Kd.R_reads' HO114.out).2.2 1 p118 q118; cases e118; (try simp only [show (1 : Int).toNat = 1 from rfl, Nat.reduceMul, Nat.reduceEqDiff, Go.Addr.add, ↓reduceIte] at hx118_0); (try simp only [show (1 : Int).toNat = 1 from rfl, Nat.reduceMul, Nat.reduceEqDiff, Go.Addr.add, ↓reduceIte] at hx118_1); have qi118 : (1 < t112.length) = True := eq_true (by omega); (try rw [show ((1 : Int)).toNat = 1 from rfl] at hx118_0); (try rw [show 1 * 2 = 2 from rfl] at hx118_0); (try rw [show ((1 : Int)).toNat = 1 from rfl] at hx118_1); (try rw [show 1 * 2 = 2 from rfl] at hx118_1); replace p118 := eq_true p118; replace q118 := eq_true q118; have p119 : 0 ≤ (3 : Int) := (by omega); have q119 : 3 < (t112.length : Int) := of_decide_eq_true (by first | (with_reducible assumption) | assumption); obtain ⟨ad119, e119, hx119_0, hx119_1⟩ := at_T32 (Kd.R_reads' HO114.out).2.2 3 p119 q119; obtain rfl : ad118 = ad119 := (by injection e119); (try simp only [show (3 : Int).toNat = 3 from rfl, Nat.reduceMul, Nat.reduceEqDiff, Go.Addr.add, ↓reduceIte] at hx119_0); (try simp only [show (3 : Int).toNat = 3 from rfl, Nat.reduceMul, Nat.reduceEqDiff, Go.Addr.add, ↓reduceIte] at hx119_1); have qi119 : (3 < t112.length) = True := eq_true (by omega); (try rw [show ((3 : Int)).toNat = 3 from rfl] at hx119_0); (try rw [show 3 * 2 = 6 from rfl] at hx119_0); (try rw [show ((3 : Int)).toNat = 3 from rfl] at hx119_1); (try rw [show 3 * 2 = 6 from rfl] at hx119_1); replace p119 := eq_true p119; replace q119 := eq_true q119))
            go_ret
            exact ⟨by first | rfl | (simp [errW_none, errW_some] <;> rfl) | (simp [*, errW_none, errW_some] <;> rfl), by repeat (first | (with_reducible first | exact HB.out | apply below_alloc | apply pw_below_drewN | apply below_drew1) | exact HB.out)⟩
        · rw [if_neg c6] at H
          exact absurd H (by simp)
      · rw [if_neg c5] at H
        have c5b0 : (((rd_T32 t112 1).f0) == 2) = false := beq_eq_false_iff_ne.mpr c5
        have c5b1 : (((rd_T32 t112 1).f0) != 2) = true := bne_iff_ne.mpr c5
        obtain rfl := Option.some.inj H
        go_enter Try.func8, Try.ntmps8
        go_wp2_with (first | ((with_reducible refine gate_dst (N := 6) rfl ?_); (try (refine gate_guard (by rfl) ?_; dsimp only)); refine Kd.R_lit k32 _ 32 ?hg (N := 6) ?hd (xs := ([(⟨1, 0⟩ : S32), (⟨4, 0⟩ : S32)] : List (S32))) (inner := [.int .u64 1, .int .u64 0, .int .u64 4, .int .u64 0]) (ok := fun _ => True) (okp := fun _ => True) ?hr ?hp (fun _ hk => hk) trivial (Below.refl _ _) (Nat.le_refl _) (by simp) ?_; (case hd => rfl); (case hg => rfl); (case hr => first | (go_simp; done) | (go_simp; rfl)); (case hp => exact (Reps.c2 (show Kd.M k32 _ _ _ (⟨1, 0⟩ : S32) [.int .u64 1, .int .u64 0] from (k32_mkM _ _ _ (⟨1, 0⟩ : S32) )) (Reps.c2 (show Kd.M k32 _ _ _ (⟨4, 0⟩ : S32) [.int .u64 4, .int .u64 0] from (k32_mkM _ _ _ (⟨4, 0⟩ : S32) )) (Reps.none _ _)))); intro v104 w101 ho102 hb hg_ hnew_; clear hg_ hnew_; (first | rw [← Ny103.out] at ho102 | (simp only [Int.reduceToNat] at ho102; rw [← Ny103.out] at ho102)); have n0_ := Aside0.mk (Kd.R_lower ho102 (below_size (by repeat (first | (with_reducible first | exact HB.out | apply below_alloc | apply pw_below_drewN | apply below_drew1) | exact HB.out)))); have n1_ := Aside0.mk (below_step (by repeat (first | (with_reducible first | exact HB.out | apply below_alloc | apply pw_below_drewN | apply below_drew1) | exact HB.out)) hb); clear HB; have HO105 := n0_; have HB := n1_; clear n0_ n1_; clear hb ho102) | ((with_reducible refine gate_dst (N := 9) rfl ?_); (try (refine gate_guard (by rfl) ?_; dsimp only)); refine Kd.R_lit k32 _ 32 ?hg (N := 9) ?hd (xs := ([(⟨2, 0⟩ : S32), (⟨3, 0⟩ : S32)] : List (S32))) (inner := [.int .u64 2, .int .u64 0, .int .u64 3, .int .u64 0]) (ok := fun _ => True) (okp := fun _ => True) ?hr ?hp (fun _ hk => hk) trivial (Below.refl _ _) (Nat.le_refl _) (by simp) ?_; (case hd => rfl); (case hg => rfl); (case hr => first | (go_simp; done) | (go_simp; rfl)); (case hp => exact (Reps.c2 (show Kd.M k32 _ _ _ (⟨2, 0⟩ : S32) [.int .u64 2, .int .u64 0] from (k32_mkM _ _ _ (⟨2, 0⟩ : S32) )) (Reps.c2 (show Kd.M k32 _ _ _ (⟨3, 0⟩ : S32) [.int .u64 3, .int .u64 0] from (k32_mkM _ _ _ (⟨3, 0⟩ : S32) )) (Reps.none _ _)))); intro v107 w103 ho104 hb hg_ hnew_; clear hg_ hnew_; (first | rw [← Ny106.out] at ho104 | (simp only [Int.reduceToNat] at ho104; rw [← Ny106.out] at ho104)); have n0_ := Aside0.mk (Kd.R_elder' (by (with_reducible repeat (first | apply Kd.R_alloc | apply Kd.R_drewN | apply Kd.R_drew)); exact HO105.out) (Kd.R_base ho104) hb); have n1_ := Aside0.mk (Kd.R_lower (Kd.R_new' ho104 (Kd.R_lt (by (with_reducible repeat (first | apply Kd.R_alloc | apply Kd.R_drewN | apply Kd.R_drew)); exact HO105.out))) (below_size (by repeat (first | (with_reducible first | exact HB.out | apply below_alloc | apply pw_below_drewN | apply below_drew1) | exact HB.out)))); have n2_ := Aside0.mk (below_step (by repeat (first | (with_reducible first | exact HB.out | apply below_alloc | apply pw_below_drewN | apply below_drew1) | exact HB.out)) hb); clear HO105; clear HB; have HO105 := n0_; have HO108 := n1_; have HB := n2_; clear n0_ n1_ n2_; clear hb ho104; obtain ⟨Ao105, co105, eo105⟩ := Kd.R_slice HO105.out; subst eo105; obtain ⟨Ao106, co106, eo106⟩ := Kd.R_slice HO108.out; subst eo106) | ((with_reducible refine gate_dst (N := 10) rfl ?_); (try (refine gate_guard (by rfl) ?_; dsimp only)); refine Kd.N_lit (Kd.slice 32 k32) _ 25 ?hg (N' := 10) ?hd (xs := ([y103, y106] : List (List (S32)))) (inner := [.slice Ao105 y103.length co105, .slice Ao106 y106.length co106]) (ok := (fun _ => True)) (okp := (fun _ => True)) ?hr ?hp (fun _ hk => hk) ((show ∀ k_, w103.heap.size ≤ k_ → (fun _ => True) k_ from fun k_ hk => trivial) _ (Nat.le_refl _)) (Below.refl _ _) (Nat.le_refl _) (by simp) ?_; (case hd => rfl); (case hg => rfl); (case hr => first | (go_simp; done) | (go_simp; rfl)); (case hp => exact (Reps.one (show Kd.FK (Kd.slice 32 k32) _ _ y103 [.slice Ao105 y103.length co105] from (Kd.FK_slice_mk (Kd.R_reads' (Kd.R_mono (ok' := (fun _ => True)) (HO105.out) (fun k_ hk => trivial))).2.1 (Kd.R_F (Kd.R_mono (ok' := (fun _ => True)) (HO105.out) (fun k_ hk => trivial))))) (Reps.one (show Kd.FK (Kd.slice 32 k32) _ _ y106 [.slice Ao106 y106.length co106] from (Kd.FK_slice_mk (Kd.R_reads' (Kd.R_mono (ok' := (fun _ => True)) (HO108.out) (fun k_ hk => trivial))).2.1 (Kd.R_F (Kd.R_mono (ok' := (fun _ => True)) (HO108.out) (fun k_ hk => trivial))))) (Reps.none _ _)))); intro v110 w107 ho108 hb hg_ hnew_; clear hg_ hnew_; (first | rw [← Ny109.out] at ho108 | (simp only [Int.reduceToNat] at ho108; rw [← Ny109.out] at ho108)); have n0_ := Aside0.mk (Kd.N_lower ho108 (below_size (by repeat (first | (with_reducible first | exact HB.out | apply below_alloc | apply pw_below_drewN | apply below_drew1) | exact HB.out)))); have n1_ := Aside0.mk (below_step (by repeat (first | (with_reducible first | exact HB.out | apply below_alloc | apply pw_below_drewN | apply below_drew1) | exact HB.out)) hb); clear HB; clear HO105; clear HO108; have HO111 := n0_; have HB := n1_; clear n0_ n1_; clear hb ho108; obtain ⟨Ao109, co109, eo109⟩ := Kd.N_slice HO111.out; subst eo109) | ((with_reducible refine gate_callee (f := 10) rfl ?_); refine goesL_ (some 12) rfl rfl Try.func10 (by kernel_rfl) rfl #[.slice Ao109 y109.length co109, .int .i64 9] rfl (by (try simp only [List.map_toArray, List.map_cons, List.map_nil]); first | done | rfl | (simp only [List.length_drop, List.length_take]; rfl)) ?_; (with_reducible refine (merge_Pairs.calls _ _ y109 9 t112 _ ?side1 ?side2 A1.out).mono ?_); (case side1 => repeat (first | exact (Kd.N_reads' HO111.out).2.2 | (with_reducible refine Kd.C_alloc ?_ _) | (with_reducible refine Kd.C_drewN ?_ _) | (with_reducible refine Kd.C_drew ?_))); (case side2 => exact (Kd.N_reads' HO111.out).2.1); rintro e w110 ⟨v113, rfl, ho0, hb⟩; refine ⟨_, rfl, ?_⟩; have n0_ := Aside0.mk (Kd.N_elder' (by (with_reducible repeat (first | apply Kd.N_alloc | apply Kd.N_drewN | apply Kd.N_drew)); exact HO111.out) (Kd.R_base ho0) hb); have n1_ := Aside0.mk (Kd.R_lower ho0 (below_size (by repeat (first | (with_reducible first | exact HB.out | apply below_alloc | apply pw_below_drewN | apply below_drew1) | exact HB.out)))); have n2_ := Aside0.mk (below_step (by repeat (first | (with_reducible first | exact HB.out | apply below_alloc | apply pw_below_drewN | apply below_drew1) | exact HB.out)) hb); clear HO111; clear HB; have HO111 := n0_; have HO114 := n1_; have HB := n2_; clear n0_ n1_ n2_; (try clear hb); (try clear hb2); (try clear hk); (try clear hi); (try clear ho0)) | ((with_reducible refine gate_callee (f := 10) rfl ?_); refine goesL_ (some 14) rfl rfl Try.func10 (by kernel_rfl) rfl #[.slice Ao109 y109.length co109, .int .i64 2] rfl (by (try simp only [List.map_toArray, List.map_cons, List.map_nil]); first | done | rfl | (simp only [List.length_drop, List.length_take]; rfl)) ?_; (with_reducible refine (merge_Pairs.calls _ _ y109 2 t115 _ ?side1 ?side2 A2.out).mono ?_); (case side1 => repeat (first | exact (Kd.N_reads' HO111.out).2.2 | (with_reducible refine Kd.C_alloc ?_ _) | (with_reducible refine Kd.C_drewN ?_ _) | (with_reducible refine Kd.C_drew ?_))); (case side2 => exact (Kd.N_reads' HO111.out).2.1); rintro e w111 ⟨v116, rfl, ho0, hb⟩; refine ⟨_, rfl, ?_⟩; have n0_ := Aside0.mk (Kd.N_elder' (by (with_reducible repeat (first | apply Kd.N_alloc | apply Kd.N_drewN | apply Kd.N_drew)); exact HO111.out) (Kd.R_base ho0) hb); have n1_ := Aside0.mk (Kd.R_elder' (by (with_reducible repeat (first | apply Kd.R_alloc | apply Kd.R_drewN | apply Kd.R_drew)); exact HO114.out) (Kd.R_base ho0) hb); have n2_ := Aside0.mk (Kd.R_lower (Kd.R_new' ho0 (Kd.R_lt (by (with_reducible repeat (first | apply Kd.R_alloc | apply Kd.R_drewN | apply Kd.R_drew)); exact HO114.out))) (below_size (by repeat (first | (with_reducible first | exact HB.out | apply below_alloc | apply pw_below_drewN | apply below_drew1) | exact HB.out)))); have n3_ := Aside0.mk (below_step (by repeat (first | (with_reducible first | exact HB.out | apply below_alloc | apply pw_below_drewN | apply below_drew1) | exact HB.out)) hb); clear HO111; clear HO114; clear HB; have HO111 := n0_; have HO114 := n1_; have HO117 := n2_; have HB := n3_; clear n0_ n1_ n2_ n3_; (try clear hb); (try clear hb2); (try clear hk); (try clear hi); (try clear ho0); obtain ⟨Ao112, co112, eo112⟩ := Kd.R_slice HO114.out; subst eo112; have p118 : 0 ≤ (1 : Int) := (by omega); have q118 : 1 < (t112.length : Int) := of_decide_eq_true (by first | (with_reducible assumption) | assumption); obtain ⟨ad118, e118, hx118_0, hx118_1⟩ := at_T32 (Kd.R_reads' HO114.out).2.2 1 p118 q118; cases e118; (try simp only [show (1 : Int).toNat = 1 from rfl, Nat.reduceMul, Nat.reduceEqDiff, Go.Addr.add, ↓reduceIte] at hx118_0); (try simp only [show (1 : Int).toNat = 1 from rfl, Nat.reduceMul, Nat.reduceEqDiff, Go.Addr.add, ↓reduceIte] at hx118_1); have qi118 : (1 < t112.length) = True := eq_true (by omega); (try rw [show ((1 : Int)).toNat = 1 from rfl] at hx118_0); (try rw [show 1 * 2 = 2 from rfl] at hx118_0); (try rw [show ((1 : Int)).toNat = 1 from rfl] at hx118_1); (try rw [show 1 * 2 = 2 from rfl] at hx118_1); replace p118 := eq_true p118; replace q118 := eq_true q118))
        go_ret
        exact ⟨by first | rfl | (simp [errW_none, errW_some] <;> rfl) | (simp [*, errW_none, errW_some] <;> rfl), by repeat (first | (with_reducible first | exact HB.out | apply below_alloc | apply pw_below_drewN | apply below_drew1) | exact HB.out)⟩
    · rw [if_neg c4] at H
      exact absurd H (by simp)
  · rw [if_neg c3] at H
    have c3b0 : ((t112.length : Int) == 4) = false := beq_eq_false_iff_ne.mpr c3
    have c3b1 : ((t112.length : Int) != 4) = true := bne_iff_ne.mpr c3
    obtain rfl := Option.some.inj H
    go_enter Try.func8, Try.ntmps8
    go_wp2_with (first | ((with_reducible refine gate_dst (N := 6) rfl ?_); (try (refine gate_guard (by rfl) ?_; dsimp only)); refine Kd.R_lit k32 _ 32 ?hg (N := 6) ?hd (xs := ([(⟨1, 0⟩ : S32), (⟨4, 0⟩ : S32)] : List (S32))) (inner := [.int .u64 1, .int .u64 0, .int .u64 4, .int .u64 0]) (ok := fun _ => True) (okp := fun _ => True) ?hr ?hp (fun _ hk => hk) trivial (Below.refl _ _) (Nat.le_refl _) (by simp) ?_; (case hd => rfl); (case hg => rfl); (case hr => first | (go_simp; done) | (go_simp; rfl)); (case hp => exact (Reps.c2 (show Kd.M k32 _ _ _ (⟨1, 0⟩ : S32) [.int .u64 1, .int .u64 0] from (k32_mkM _ _ _ (⟨1, 0⟩ : S32) )) (Reps.c2 (show Kd.M k32 _ _ _ (⟨4, 0⟩ : S32) [.int .u64 4, .int .u64 0] from (k32_mkM _ _ _ (⟨4, 0⟩ : S32) )) (Reps.none _ _)))); intro v104 w113 ho114 hb hg_ hnew_; clear hg_ hnew_; (first | rw [← Ny103.out] at ho114 | (simp only [Int.reduceToNat] at ho114; rw [← Ny103.out] at ho114)); have n0_ := Aside0.mk (Kd.R_lower ho114 (below_size (by repeat (first | (with_reducible first | exact HB.out | apply below_alloc | apply pw_below_drewN | apply below_drew1) | exact HB.out)))); have n1_ := Aside0.mk (below_step (by repeat (first | (with_reducible first | exact HB.out | apply below_alloc | apply pw_below_drewN | apply below_drew1) | exact HB.out)) hb); clear HB; have HO105 := n0_; have HB := n1_; clear n0_ n1_; clear hb ho114) | ((with_reducible refine gate_dst (N := 9) rfl ?_); (try (refine gate_guard (by rfl) ?_; dsimp only)); refine Kd.R_lit k32 _ 32 ?hg (N := 9) ?hd (xs := ([(⟨2, 0⟩ : S32), (⟨3, 0⟩ : S32)] : List (S32))) (inner := [.int .u64 2, .int .u64 0, .int .u64 3, .int .u64 0]) (ok := fun _ => True) (okp := fun _ => True) ?hr ?hp (fun _ hk => hk) trivial (Below.refl _ _) (Nat.le_refl _) (by simp) ?_; (case hd => rfl); (case hg => rfl); (case hr => first | (go_simp; done) | (go_simp; rfl)); (case hp => exact (Reps.c2 (show Kd.M k32 _ _ _ (⟨2, 0⟩ : S32) [.int .u64 2, .int .u64 0] from (k32_mkM _ _ _ (⟨2, 0⟩ : S32) )) (Reps.c2 (show Kd.M k32 _ _ _ (⟨3, 0⟩ : S32) [.int .u64 3, .int .u64 0] from (k32_mkM _ _ _ (⟨3, 0⟩ : S32) )) (Reps.none _ _)))); intro v107 w115 ho116 hb hg_ hnew_; clear hg_ hnew_; (first | rw [← Ny106.out] at ho116 | (simp only [Int.reduceToNat] at ho116; rw [← Ny106.out] at ho116)); have n0_ := Aside0.mk (Kd.R_elder' (by (with_reducible repeat (first | apply Kd.R_alloc | apply Kd.R_drewN | apply Kd.R_drew)); exact HO105.out) (Kd.R_base ho116) hb); have n1_ := Aside0.mk (Kd.R_lower (Kd.R_new' ho116 (Kd.R_lt (by (with_reducible repeat (first | apply Kd.R_alloc | apply Kd.R_drewN | apply Kd.R_drew)); exact HO105.out))) (below_size (by repeat (first | (with_reducible first | exact HB.out | apply below_alloc | apply pw_below_drewN | apply below_drew1) | exact HB.out)))); have n2_ := Aside0.mk (below_step (by repeat (first | (with_reducible first | exact HB.out | apply below_alloc | apply pw_below_drewN | apply below_drew1) | exact HB.out)) hb); clear HO105; clear HB; have HO105 := n0_; have HO108 := n1_; have HB := n2_; clear n0_ n1_ n2_; clear hb ho116; obtain ⟨Ao117, co117, eo117⟩ := Kd.R_slice HO105.out; subst eo117; obtain ⟨Ao118, co118, eo118⟩ := Kd.R_slice HO108.out; subst eo118) | ((with_reducible refine gate_dst (N := 10) rfl ?_); (try (refine gate_guard (by rfl) ?_; dsimp only)); refine Kd.N_lit (Kd.slice 32 k32) _ 25 ?hg (N' := 10) ?hd (xs := ([y103, y106] : List (List (S32)))) (inner := [.slice Ao117 y103.length co117, .slice Ao118 y106.length co118]) (ok := (fun _ => True)) (okp := (fun _ => True)) ?hr ?hp (fun _ hk => hk) ((show ∀ k_, w115.heap.size ≤ k_ → (fun _ => True) k_ from fun k_ hk => trivial) _ (Nat.le_refl _)) (Below.refl _ _) (Nat.le_refl _) (by simp) ?_; (case hd => rfl); (case hg => rfl); (case hr => first | (go_simp; done) | (go_simp; rfl)); (case hp => exact (Reps.one (show Kd.FK (Kd.slice 32 k32) _ _ y103 [.slice Ao117 y103.length co117] from (Kd.FK_slice_mk (Kd.R_reads' (Kd.R_mono (ok' := (fun _ => True)) (HO105.out) (fun k_ hk => trivial))).2.1 (Kd.R_F (Kd.R_mono (ok' := (fun _ => True)) (HO105.out) (fun k_ hk => trivial))))) (Reps.one (show Kd.FK (Kd.slice 32 k32) _ _ y106 [.slice Ao118 y106.length co118] from (Kd.FK_slice_mk (Kd.R_reads' (Kd.R_mono (ok' := (fun _ => True)) (HO108.out) (fun k_ hk => trivial))).2.1 (Kd.R_F (Kd.R_mono (ok' := (fun _ => True)) (HO108.out) (fun k_ hk => trivial))))) (Reps.none _ _)))); intro v110 w119 ho120 hb hg_ hnew_; clear hg_ hnew_; (first | rw [← Ny109.out] at ho120 | (simp only [Int.reduceToNat] at ho120; rw [← Ny109.out] at ho120)); have n0_ := Aside0.mk (Kd.N_lower ho120 (below_size (by repeat (first | (with_reducible first | exact HB.out | apply below_alloc | apply pw_below_drewN | apply below_drew1) | exact HB.out)))); have n1_ := Aside0.mk (below_step (by repeat (first | (with_reducible first | exact HB.out | apply below_alloc | apply pw_below_drewN | apply below_drew1) | exact HB.out)) hb); clear HB; clear HO105; clear HO108; have HO111 := n0_; have HB := n1_; clear n0_ n1_; clear hb ho120; obtain ⟨Ao121, co121, eo121⟩ := Kd.N_slice HO111.out; subst eo121) | ((with_reducible refine gate_callee (f := 10) rfl ?_); refine goesL_ (some 12) rfl rfl Try.func10 (by kernel_rfl) rfl #[.slice Ao121 y109.length co121, .int .i64 9] rfl (by (try simp only [List.map_toArray, List.map_cons, List.map_nil]); first | done | rfl | (simp only [List.length_drop, List.length_take]; rfl)) ?_; (with_reducible refine (merge_Pairs.calls _ _ y109 9 t112 _ ?side1 ?side2 A1.out).mono ?_); (case side1 => repeat (first | exact (Kd.N_reads' HO111.out).2.2 | (with_reducible refine Kd.C_alloc ?_ _) | (with_reducible refine Kd.C_drewN ?_ _) | (with_reducible refine Kd.C_drew ?_))); (case side2 => exact (Kd.N_reads' HO111.out).2.1); rintro e w122 ⟨v113, rfl, ho0, hb⟩; refine ⟨_, rfl, ?_⟩; have n0_ := Aside0.mk (Kd.N_elder' (by (with_reducible repeat (first | apply Kd.N_alloc | apply Kd.N_drewN | apply Kd.N_drew)); exact HO111.out) (Kd.R_base ho0) hb); have n1_ := Aside0.mk (Kd.R_lower ho0 (below_size (by repeat (first | (with_reducible first | exact HB.out | apply below_alloc | apply pw_below_drewN | apply below_drew1) | exact HB.out)))); have n2_ := Aside0.mk (below_step (by repeat (first | (with_reducible first | exact HB.out | apply below_alloc | apply pw_below_drewN | apply below_drew1) | exact HB.out)) hb); clear HO111; clear HB; have HO111 := n0_; have HO114 := n1_; have HB := n2_; clear n0_ n1_ n2_; (try clear hb); (try clear hb2); (try clear hk); (try clear hi); (try clear ho0)) | ((with_reducible refine gate_callee (f := 10) rfl ?_); refine goesL_ (some 14) rfl rfl Try.func10 (by kernel_rfl) rfl #[.slice Ao121 y109.length co121, .int .i64 2] rfl (by (try simp only [List.map_toArray, List.map_cons, List.map_nil]); first | done | rfl | (simp only [List.length_drop, List.length_take]; rfl)) ?_; (with_reducible refine (merge_Pairs.calls _ _ y109 2 t115 _ ?side1 ?side2 A2.out).mono ?_); (case side1 => repeat (first | exact (Kd.N_reads' HO111.out).2.2 | (with_reducible refine Kd.C_alloc ?_ _) | (with_reducible refine Kd.C_drewN ?_ _) | (with_reducible refine Kd.C_drew ?_))); (case side2 => exact (Kd.N_reads' HO111.out).2.1); rintro e w123 ⟨v116, rfl, ho0, hb⟩; refine ⟨_, rfl, ?_⟩; have n0_ := Aside0.mk (Kd.N_elder' (by (with_reducible repeat (first | apply Kd.N_alloc | apply Kd.N_drewN | apply Kd.N_drew)); exact HO111.out) (Kd.R_base ho0) hb); have n1_ := Aside0.mk (Kd.R_elder' (by (with_reducible repeat (first | apply Kd.R_alloc | apply Kd.R_drewN | apply Kd.R_drew)); exact HO114.out) (Kd.R_base ho0) hb); have n2_ := Aside0.mk (Kd.R_lower (Kd.R_new' ho0 (Kd.R_lt (by (with_reducible repeat (first | apply Kd.R_alloc | apply Kd.R_drewN | apply Kd.R_drew)); exact HO114.out))) (below_size (by repeat (first | (with_reducible first | exact HB.out | apply below_alloc | apply pw_below_drewN | apply below_drew1) | exact HB.out)))); have n3_ := Aside0.mk (below_step (by repeat (first | (with_reducible first | exact HB.out | apply below_alloc | apply pw_below_drewN | apply below_drew1) | exact HB.out)) hb); clear HO111; clear HO114; clear HB; have HO111 := n0_; have HO114 := n1_; have HO117 := n2_; have HB := n3_; clear n0_ n1_ n2_ n3_; (try clear hb); (try clear hb2); (try clear hk); (try clear hi); (try clear ho0); obtain ⟨Ao124, co124, eo124⟩ := Kd.R_slice HO114.out; subst eo124))
    go_ret
    exact ⟨by first | rfl | (simp [errW_none, errW_some] <;> rfl) | (simp [*, errW_none, errW_some] <;> rfl), by repeat (first | (with_reducible first | exact HB.out | apply below_alloc | apply pw_below_drewN | apply below_drew1) | exact HB.out)⟩

/-! ### corrieref17_Few: function 9 -/
mutual
def corrieref17_Few.l0 : Nat → List (List (S32)) → Int → Option (Bool)
  | 0, _, _ => none
  | k + 1, x0, x3 => if x3 < (x0.length : Int) then (corrieref17_Few.j1 k x0 x3 (decide (x3 < 9))) else (corrieref17_Few.j1 k x0 x3 false)
def corrieref17_Few.j1 : Nat → List (List (S32)) → Int → Bool → Option (Bool)
  | 0, _, _, _ => none
  | k + 1, x0, x3, x11 => if x11 = true then (if 0 ≤ x3 then (if x3 < (x0.length : Int) then (if ((rd_L2 x0 x3).length : Int) > 20 then (some false) else (corrieref17_Few.l0 k x0 (wrap64 (x3 + 1)))) else (none)) else (none)) else (some (decide ((x0.length : Int) ≤ 8)))
end
def corrieref17_Few.f (k : Nat) (l0 : List (List (S32))) : Option (Bool) := corrieref17_Few.l0 k l0 0
theorem corrieref17_Few.mono_l : ∀ k, (∀ y0 y1, LeO (corrieref17_Few.l0 k y0 y1) (corrieref17_Few.l0 (k + 1) y0 y1)) ∧ (∀ y0 y1 y2, LeO (corrieref17_Few.j1 k y0 y1 y2) (corrieref17_Few.j1 (k + 1) y0 y1 y2))
  | 0 => ⟨fun _ _ r h => by simp [corrieref17_Few.l0] at h, fun _ _ _ r h => by simp [corrieref17_Few.j1] at h⟩
  | k + 1 => by
    obtain ⟨ih0, ih1⟩ := corrieref17_Few.mono_l k
    refine ⟨?_, ?_⟩
    · intro y0 y1
      unfold corrieref17_Few.l0
      repeat' first
      | (with_reducible exact ih0 _ _)
      | (with_reducible exact ih1 _ _ _)
      | (with_reducible exact LeO.refl _)
      | (with_reducible exact LeO.none _)
      | (with_reducible refine LeO.ite ?_ ?_)
      | (with_reducible refine LeO.bind ?_ (fun _ => ?_))
      | exact ih0 _ _
      | exact ih1 _ _ _
      | exact LeO.none _
      | refine LeO.ite ?_ ?_
      | refine LeO.bind ?_ (fun _ => ?_)
    · intro y0 y1 y2
      unfold corrieref17_Few.j1
      repeat' first
      | (with_reducible exact ih0 _ _)
      | (with_reducible exact ih1 _ _ _)
      | (with_reducible exact LeO.refl _)
      | (with_reducible exact LeO.none _)
      | (with_reducible refine LeO.ite ?_ ?_)
      | (with_reducible refine LeO.bind ?_ (fun _ => ?_))
      | exact ih0 _ _
      | exact ih1 _ _ _
      | exact LeO.none _
      | refine LeO.ite ?_ ?_
      | refine LeO.bind ?_ (fun _ => ?_)
theorem corrieref17_Few.mono : ∀ a0 k, LeO (corrieref17_Few.f k a0) (corrieref17_Few.f (k + 1) a0) := by
  intro a0 k
  obtain ⟨ih0, ih1⟩ := corrieref17_Few.mono_l k
  unfold corrieref17_Few.f
  repeat' first
      | (with_reducible exact ih0 _ _)
      | (with_reducible exact ih1 _ _ _)
      | (with_reducible exact LeO.refl _)
      | (with_reducible exact LeO.none _)
      | (with_reducible refine LeO.ite ?_ ?_)
      | (with_reducible refine LeO.bind ?_ (fun _ => ?_))
      | exact ih0 _ _
      | exact ih1 _ _ _
      | exact LeO.none _
      | refine LeO.ite ?_ ?_
      | refine LeO.bind ?_ (fun _ => ?_)
set_option maxHeartbeats 8000000 in
set_option maxRecDepth 100000 in
theorem corrieref17_Few.calls (k : Nat) (A0 : Option Addr) (c0 : Nat) (l0 : List (List (S32))) (r : Bool) (w : World) (hr0 : Kd.C (Kd.slice 32 k32) w A0 l0.length l0) (hc0 : l0.length ≤ c0) (h : corrieref17_Few.f k l0 = some r) :
    Calls Try.prog 9 #[.slice A0 l0.length c0] w fun e w' => e = .returned (.bool r) ∧ Drawn0 w w' := by
  have HR0 := Aside0.mk hr0
  have HC0 := Aside0.mk hc0
  clear hr0 hc0
  have H : (corrieref17_Few.l0 k l0 0) = some r := h
  clear h
  have H' := Aside0.mk H
  clear H
  go_enter Try.func9, Try.ntmps9
  go_wp2
  go_loopg [3] k (fun kq v3 w' => ∃ (x3_1 : Int), v3 = .int .i64 x3_1 ∧ Aside0 (corrieref17_Few.l0 kq l0 x3_1 = some r) ∧ Aside0 (kq ≤ k) ∧ Drawn0 w w')
  case atStart => exact ⟨(0), (by first | rfl | (simp; done) | (simp [*]; done)), H', ⟨Nat.le_refl _⟩, by repeat (first | exact Drawn0.refl _ | apply Drawn0.step)⟩
  case round =>
    clear H'
    obtain ⟨x3_1, rfl, HA, HK1, ⟨m1, rfl⟩⟩ := hrel
    cases gk with
    | zero => exact absurd HA.out (by simp [corrieref17_Few.l0])
    | succ k1 =>
      have H := HA.out
      clear HA
      simp only [corrieref17_Few.l0] at H
      have HC2 := Aside0.mk H
      clear H
      go_upto_region 2 with (fail)
      go_cut [11] (fun v11 wc => ∃ (kq : Nat) (x11_1 : Bool), v11 = .bool x11_1 ∧ Aside0 (corrieref17_Few.j1 kq l0 x3_1 x11_1 = some r) ∧ Aside0 (kq ≤ k1) ∧ Drawn0 w wc)
      case first =>
        have H := HC2.out
        clear HC2
        by_cases c3 : x3_1 < (l0.length : Int)
        · rw [if_pos c3] at H
          have c3b0 : decide (x3_1 < (l0.length : Int)) = true := decide_eq_true c3
          clear c3
          (first | rw [c3b0] | (simp only [i64_w, i32_w]; rw [c3b0]) | skip)
          have H' := Aside0.mk H
          clear H
          go_wp2
          go_meet
          case rel => exact ⟨_, (decide (x3_1 < 9)), (by first | rfl | (simp; done) | (simp [*]; done)), H', ⟨by have := HK1.out; first | omega | exact Nat.le_refl _⟩, by repeat (first | exact Drawn0.refl _ | apply Drawn0.step)⟩
        · rw [if_neg c3] at H
          have c3b0 : decide (x3_1 < (l0.length : Int)) = false := decide_eq_false c3
          clear c3
          (first | rw [c3b0] | (simp only [i64_w, i32_w]; rw [c3b0]) | skip)
          have H' := Aside0.mk H
          clear H
          go_wp2
          go_meet
          case rel => exact ⟨_, (false), (by first | rfl | (simp; done) | (simp [*]; done)), H', ⟨by have := HK1.out; first | omega | exact Nat.le_refl _⟩, by repeat (first | exact Drawn0.refl _ | apply Drawn0.step)⟩
      case rest =>
        clear HC2
        try clear p2
        try clear c3
        try clear c3b0
        obtain ⟨kq, x11_1, rfl, HA, HJ1, ⟨mc1, rfl⟩⟩ := hcut
        cases kq with
        | zero => exact absurd HA.out (by simp [corrieref17_Few.j1])
        | succ kj1 =>
          have H := HA.out
          clear HA
          simp only [corrieref17_Few.j1] at H
          by_cases c4 : x11_1 = true
          · subst c4
            have H1 : (if 0 ≤ x3_1 then (if x3_1 < (l0.length : Int) then (if ((rd_L2 l0 x3_1).length : Int) > 20 then (some false) else (corrieref17_Few.l0 kj1 l0 (wrap64 (x3_1 + 1)))) else (none)) else (none)) = some r := by rw [if_pos rfl] at H; exact H
            clear H
            have H := H1
            clear H1
            by_cases c5 : 0 ≤ x3_1
            · rw [if_pos c5] at H
              have c5b0 : decide (0 ≤ x3_1) = true := decide_eq_true c5
              clear c5
              by_cases c6 : x3_1 < (l0.length : Int)
              · rw [if_pos c6] at H
                have c6b0 : decide (x3_1 < (l0.length : Int)) = true := decide_eq_true c6
                clear c6
                by_cases c7 : ((rd_L2 l0 x3_1).length : Int) > 20
                · rw [if_pos c7] at H
                  have c7b0 : decide (20 < ((rd_L2 l0 x3_1).length : Int)) = true := decide_eq_true c7
                  have c7b1 : decide (20 < (rd_L2 l0 x3_1).length) = true := decide_eq_true (by omega)
                  clear c7
                  obtain rfl := Option.some.inj H
                  have p129 : 0 ≤ (x3_1 : Int) := of_decide_eq_true (by first | (with_reducible assumption) | assumption)
                  have q129 : x3_1 < (l0.length : Int) := of_decide_eq_true (by first | (with_reducible assumption) | assumption)
                  obtain ⟨ad129, A129_0, c129_0, e129, hx129_0, hl129_0, hi129_0⟩ := at_L2 HR0.out x3_1 p129 q129
                  cases e129
                  have HR129_0 := Aside0.mk hi129_0
                  have HC129_0 := Aside0.mk hl129_0
                  clear hi129_0 hl129_0
                  replace p129 := eq_true p129
                  replace q129 := eq_true q129
                  go_wp2
                  go_ret
                  exact ⟨by first | rfl | (simp; done) | (simp [*]; done), by repeat (first | exact Drawn0.refl _ | apply Drawn0.step)⟩
                · rw [if_neg c7] at H
                  have c7b0 : decide (20 < ((rd_L2 l0 x3_1).length : Int)) = false := decide_eq_false c7
                  have c7b1 : decide (20 < (rd_L2 l0 x3_1).length) = false := decide_eq_false (by omega)
                  clear c7
                  have H' := Aside0.mk H
                  clear H
                  have p129 : 0 ≤ (x3_1 : Int) := of_decide_eq_true (by first | (with_reducible assumption) | assumption)
                  have q129 : x3_1 < (l0.length : Int) := of_decide_eq_true (by first | (with_reducible assumption) | assumption)
                  obtain ⟨ad129, A129_0, c129_0, e129, hx129_0, hl129_0, hi129_0⟩ := at_L2 HR0.out x3_1 p129 q129
                  cases e129
                  have HR129_0 := Aside0.mk hi129_0
                  have HC129_0 := Aside0.mk hl129_0
                  clear hi129_0 hl129_0
                  replace p129 := eq_true p129
                  replace q129 := eq_true q129
                  go_wp2
                  go_roundg kj1
                  case measure => have := HK1.out; have := HJ1.out; omega
                  case rel => exact ⟨(wrap64 (x3_1 + 1)), (by first | rfl | (simp; done) | (simp [*]; done)), H', ⟨by have := HK1.out; have := HJ1.out; omega⟩, by repeat (first | exact Drawn0.refl _ | apply Drawn0.step)⟩
              · rw [if_neg c6] at H
                exact absurd H (by simp)
            · rw [if_neg c5] at H
              exact absurd H (by simp)
          · replace c4 := Bool.eq_false_iff.mpr c4
            subst c4
            have H1 : (some (decide ((l0.length : Int) ≤ 8))) = some r := by rw [if_neg (show ¬ (false = true) by decide)] at H; exact H
            clear H
            have H := H1
            clear H1
            obtain rfl := Option.some.inj H
            go_wp2
            go_ret
            exact ⟨by first | rfl | (simp; done) | (simp [*]; done), by repeat (first | exact Drawn0.refl _ | apply Drawn0.step)⟩

/-! ### corrieref17_Count: function 16 -/
def corrieref17_Count.l0 : Nat → List (S32) → Int → Int → Int → Int → Option (Int)
  | 0, _, _, _, _, _ => none
  | k + 1, x0, x5, x6, x131000, x131001 => if x6 < (x0.length : Int) then (if 0 ≤ x6 then (if (((rd_T32 x0 x6).f0) == x131000 && (((rd_T32 x0 x6).f1) == x131001)) = true then (corrieref17_Count.l0 k x0 (wrap64 (x5 + 1)) (wrap64 (x6 + 1)) x131000 x131001) else (corrieref17_Count.l0 k x0 x5 (wrap64 (x6 + 1)) x131000 x131001)) else (none)) else (some x5)
def corrieref17_Count.f (k : Nat) (l0 : List (S32)) (a1_0 : Int) (a1_1 : Int) : Option (Int) := corrieref17_Count.l0 k l0 0 0 a1_0 a1_1
theorem corrieref17_Count.mono_l : ∀ k, (∀ y0 y1 y2 y3 y4, LeO (corrieref17_Count.l0 k y0 y1 y2 y3 y4) (corrieref17_Count.l0 (k + 1) y0 y1 y2 y3 y4))
  | 0 => fun _ _ _ _ _ r h => by simp [corrieref17_Count.l0] at h
  | k + 1 => by
    have ih0 := corrieref17_Count.mono_l k
    · intro y0 y1 y2 y3 y4
      unfold corrieref17_Count.l0
      repeat' first
      | (with_reducible exact ih0 _ _ _ _ _)
      | (with_reducible exact LeO.refl _)
      | (with_reducible exact LeO.none _)
      | (with_reducible refine LeO.ite ?_ ?_)
      | (with_reducible refine LeO.bind ?_ (fun _ => ?_))
      | exact ih0 _ _ _ _ _
      | exact LeO.none _
      | refine LeO.ite ?_ ?_
      | refine LeO.bind ?_ (fun _ => ?_)
theorem corrieref17_Count.mono : ∀ a0 a1 a2 k, LeO (corrieref17_Count.f k a0 a1 a2) (corrieref17_Count.f (k + 1) a0 a1 a2) := by
  intro a0 a1 a2 k
  have ih0 := corrieref17_Count.mono_l k
  unfold corrieref17_Count.f
  repeat' first
      | (with_reducible exact ih0 _ _ _ _ _)
      | (with_reducible exact LeO.refl _)
      | (with_reducible exact LeO.none _)
      | (with_reducible refine LeO.ite ?_ ?_)
      | (with_reducible refine LeO.bind ?_ (fun _ => ?_))
      | exact ih0 _ _ _ _ _
      | exact LeO.none _
      | refine LeO.ite ?_ ?_
      | refine LeO.bind ?_ (fun _ => ?_)
set_option maxHeartbeats 8000000 in
set_option maxRecDepth 100000 in
theorem corrieref17_Count.calls (k : Nat) (A0 : Option Addr) (c0 : Nat) (l0 : List (S32)) (a1_0 : Int) (a1_1 : Int) (r : Int) (w : World) (hr0 : Kd.C k32 w A0 l0.length l0) (hc0 : l0.length ≤ c0) (h : corrieref17_Count.f k l0 a1_0 a1_1 = some r) :
    Calls Try.prog 16 #[.slice A0 l0.length c0, .agg #[.int .u64 a1_0, .int .u64 a1_1]] w fun e w' => e = .returned (.int .i64 r) ∧ Below w.heap.size w w' := by
  have hu32 := Try.underlying32
  have HR0 := Aside0.mk hr0
  have HC0 := Aside0.mk hc0
  clear hr0 hc0
  have HB := Aside0.mk (Below.refl w.heap.size w)
  have H : (corrieref17_Count.l0 k l0 0 0 a1_0 a1_1) = some r := h
  clear h
  have H' := Aside0.mk H
  clear H
  go_enter Try.func16, Try.ntmps16
  go_wp2_with (first | ((with_reducible refine gate_dst (N := 3) rfl ?_); refine box_event ?hg (N := 3) ?hd (cs := #[.int .u64 a1_0, .int .u64 a1_1]) (t := 32) ?hr ?_; (case hd => rfl); (case hg => rfl); (case hr => first | (go_simp; done) | (go_simp; rfl)); intro gb130 hg w3 hbox hb; have n0_ := Aside0.mk (below_step (by repeat (first | (with_reducible first | exact HB.out | apply below_alloc | apply pw_below_drewN | apply below_drew1) | exact HB.out)) hb); have n1_ := Aside0.mk (hbox); have n2_ := Aside0.mk ((by rw [hg]; exact (below_size (by repeat (first | (with_reducible first | exact HB.out | apply below_alloc | apply pw_below_drewN | apply below_drew1) | exact HB.out))) : w.heap.size ≤ gb130)); have n3_ := Aside0.mk ((by rw [hg]; exact (below_size (by repeat (first | (with_reducible first | exact HB.out | apply below_alloc | apply pw_below_drewN | apply below_drew1) | exact HB.out))) : w.heap.size ≤ gb130)); clear HB; have HB := n0_; have BK130 := n1_; have GW130 := n2_; have GE130 := n3_; clear n0_ n1_ n2_ n3_; clear hb hbox hg))
  repeat (go_quiet (first | ((with_reducible refine gate_dst (N := 3) rfl ?_); refine box_event ?hg (N := 3) ?hd (cs := #[.int .u64 a1_0, .int .u64 a1_1]) (t := 32) ?hr ?_; (case hd => rfl); (case hg => rfl); (case hr => first | (go_simp; done) | (go_simp; rfl)); intro gb130 hg w3 hbox hb; have n0_ := Aside0.mk (below_step (by repeat (first | (with_reducible first | exact HB.out | apply below_alloc | apply pw_below_drewN | apply below_drew1) | exact HB.out)) hb); have n1_ := Aside0.mk (hbox); have n2_ := Aside0.mk ((by rw [hg]; exact (below_size (by repeat (first | (with_reducible first | exact HB.out | apply below_alloc | apply pw_below_drewN | apply below_drew1) | exact HB.out))) : w.heap.size ≤ gb130)); have n3_ := Aside0.mk ((by rw [hg]; exact (below_size (by repeat (first | (with_reducible first | exact HB.out | apply below_alloc | apply pw_below_drewN | apply below_drew1) | exact HB.out))) : w.heap.size ≤ gb130)); clear HB; have HB := n0_; have BK130 := n1_; have GW130 := n2_; have GE130 := n3_; clear n0_ n1_ n2_ n3_; clear hb hbox hg)); try go_wp2_with (first | ((with_reducible refine gate_dst (N := 3) rfl ?_); refine box_event ?hg (N := 3) ?hd (cs := #[.int .u64 a1_0, .int .u64 a1_1]) (t := 32) ?hr ?_; (case hd => rfl); (case hg => rfl); (case hr => first | (go_simp; done) | (go_simp; rfl)); intro gb130 hg w3 hbox hb; have n0_ := Aside0.mk (below_step (by repeat (first | (with_reducible first | exact HB.out | apply below_alloc | apply pw_below_drewN | apply below_drew1) | exact HB.out)) hb); have n1_ := Aside0.mk (hbox); have n2_ := Aside0.mk ((by rw [hg]; exact (below_size (by repeat (first | (with_reducible first | exact HB.out | apply below_alloc | apply pw_below_drewN | apply below_drew1) | exact HB.out))) : w.heap.size ≤ gb130)); have n3_ := Aside0.mk ((by rw [hg]; exact (below_size (by repeat (first | (with_reducible first | exact HB.out | apply below_alloc | apply pw_below_drewN | apply below_drew1) | exact HB.out))) : w.heap.size ≤ gb130)); clear HB; have HB := n0_; have BK130 := n1_; have GW130 := n2_; have GE130 := n3_; clear n0_ n1_ n2_ n3_; clear hb hbox hg)))
  go_loopg [5, 6] k (fun kq v5 v6 w' => ∃ (x5_1 : Int) (x6_1 : Int), v5 = .int .i64 x5_1 ∧ v6 = .int .i64 x6_1 ∧ Aside0 (corrieref17_Count.l0 kq l0 x5_1 x6_1 a1_0 a1_1 = some r) ∧ Aside0 (kq ≤ k) ∧ Aside0 (w'.heap[gb130]? = some (.cells #[.int .u64 a1_0, .int .u64 a1_1] 32 (0, 0))) ∧ Aside0 (Below w.heap.size w w'))
  case atStart => exact ⟨(0), (0), (by first | rfl | (simp; done) | (simp [*]; done)), (by first | rfl | (simp; done) | (simp [*]; done)), H', ⟨Nat.le_refl _⟩, ⟨by (with_reducible repeat (first | refine blk_drewN ?_ _ | refine blk_drew ?_ | refine blk_alloc ?_ _)); exact BK130.out⟩, ⟨by repeat (first | (with_reducible first | exact HB.out | apply below_alloc | apply pw_below_drewN | apply below_drew1 | refine below_set ?_ GE130.out) | exact HB.out)⟩⟩
  case round =>
    clear H'
    try clear c1
    try clear p2
    obtain ⟨x5_1, x6_1, rfl, rfl, HA, HK1, BK130, HB⟩ := hrel
    cases gk with
    | zero => exact absurd HA.out (by simp [corrieref17_Count.l0])
    | succ k1 =>
      have H := HA.out
      clear HA
      simp only [corrieref17_Count.l0] at H
      by_cases c4 : x6_1 < (l0.length : Int)
      · rw [if_pos c4] at H
        have c4b0 : decide (x6_1 < (l0.length : Int)) = true := decide_eq_true c4
        clear c4
        by_cases c5 : 0 ≤ x6_1
        · rw [if_pos c5] at H
          have c5b0 : decide (0 ≤ x6_1) = true := decide_eq_true c5
          clear c5
          by_cases c6 : (((rd_T32 l0 x6_1).f0) == a1_0 && (((rd_T32 l0 x6_1).f1) == a1_1)) = true
          · rw [if_pos c6] at H
            have c6b0 : (((rd_T32 l0 x6_1).f0) == a1_0 && (((rd_T32 l0 x6_1).f1) == a1_1)) = true := c6
            (try (have c6b1 : decide (((rd_T32 l0 x6_1).f0) = a1_0 && (((rd_T32 l0 x6_1).f1) == a1_1)) = true := by simpa using c6))
            (try (have c6b2 : (((rd_T32 l0 x6_1).f0) == a1_0 && (((rd_T32 l0 x6_1).f1) == a1_1)) = true := by simpa using c6))
            clear c6
            have H' := Aside0.mk H
            clear H
            have p131 : 0 ≤ (x6_1 : Int) := of_decide_eq_true (by first | (with_reducible assumption) | assumption)
            have q131 : x6_1 < (l0.length : Int) := of_decide_eq_true (by first | (with_reducible assumption) | assumption)
            obtain ⟨ad131, e131, hx131_0, hx131_1⟩ := at_T32 HR0.out x6_1 p131 q131
            cases e131
            replace hx131_0 := (HB.out.cell (World.block_lt_of_cell? w _ hx131_0)).trans hx131_0
            replace hx131_1 := (HB.out.cell (World.block_lt_of_cell? w _ hx131_1)).trans hx131_1
            replace p131 := eq_true p131
            replace q131 := eq_true q131
            have hcz7_0 : wr.cell? ⟨gb130, 0, none⟩ = some (.int .u64 a1_0) := (blk_cell BK130.out 0).trans rfl
            have hcz7_1 : wr.cell? ⟨gb130, 1, none⟩ = some (.int .u64 a1_1) := (blk_cell BK130.out 1).trans rfl
            have hfz7_0 := blk_frozen BK130.out 0
            have hfz7_1 := blk_frozen BK130.out 1
            go_wp2
            repeat (go_quiet (fail); try go_wp2)
            go_roundg k1
            case measure => have := HK1.out; omega
            case rel => exact ⟨(wrap64 (x5_1 + 1)), (wrap64 (x6_1 + 1)), (by first | rfl | (simp; done) | (simp [*]; done)), (by first | rfl | (simp; done) | (simp [*]; done)), H', ⟨by have := HK1.out; omega⟩, ⟨by (with_reducible repeat (first | refine blk_drewN ?_ _ | refine blk_drew ?_ | refine blk_alloc ?_ _)); exact BK130.out⟩, ⟨by repeat (first | (with_reducible first | exact HB.out | apply below_alloc | apply pw_below_drewN | apply below_drew1 | refine below_set ?_ GE130.out) | exact HB.out)⟩⟩
          · rw [if_neg c6] at H
            have c6b0 : (((rd_T32 l0 x6_1).f0) == a1_0 && (((rd_T32 l0 x6_1).f1) == a1_1)) = false := by simpa using c6
            (try (have c6b1 : decide (((rd_T32 l0 x6_1).f0) = a1_0 && (((rd_T32 l0 x6_1).f1) == a1_1)) = false := by simpa using c6))
            (try (have c6b2 : (((rd_T32 l0 x6_1).f0) == a1_0 && (((rd_T32 l0 x6_1).f1) == a1_1)) = false := by simpa using c6))
            (try (have c6b3 : ¬ (((rd_T32 l0 x6_1).f0) = a1_0 && (((rd_T32 l0 x6_1).f1) == a1_1)) := by simpa using c6))
            clear c6
            have H' := Aside0.mk H
            clear H
            have p131 : 0 ≤ (x6_1 : Int) := of_decide_eq_true (by first | (with_reducible assumption) | assumption)
            have q131 : x6_1 < (l0.length : Int) := of_decide_eq_true (by first | (with_reducible assumption) | assumption)
            obtain ⟨ad131, e131, hx131_0, hx131_1⟩ := at_T32 HR0.out x6_1 p131 q131
            cases e131
            replace hx131_0 := (HB.out.cell (World.block_lt_of_cell? w _ hx131_0)).trans hx131_0
            replace hx131_1 := (HB.out.cell (World.block_lt_of_cell? w _ hx131_1)).trans hx131_1
            replace p131 := eq_true p131
            replace q131 := eq_true q131
            have hcz8_0 : wr.cell? ⟨gb130, 0, none⟩ = some (.int .u64 a1_0) := (blk_cell BK130.out 0).trans rfl
            have hcz8_1 : wr.cell? ⟨gb130, 1, none⟩ = some (.int .u64 a1_1) := (blk_cell BK130.out 1).trans rfl
            have hfz8_0 := blk_frozen BK130.out 0
            have hfz8_1 := blk_frozen BK130.out 1
            go_wp2
            repeat (go_quiet (fail); try go_wp2)
            go_roundg k1
            case measure => have := HK1.out; omega
            case rel => exact ⟨(x5_1), (wrap64 (x6_1 + 1)), (by first | rfl | (simp; done) | (simp [*]; done)), (by first | rfl | (simp; done) | (simp [*]; done)), H', ⟨by have := HK1.out; omega⟩, ⟨by (with_reducible repeat (first | refine blk_drewN ?_ _ | refine blk_drew ?_ | refine blk_alloc ?_ _)); exact BK130.out⟩, ⟨by repeat (first | (with_reducible first | exact HB.out | apply below_alloc | apply pw_below_drewN | apply below_drew1 | refine below_set ?_ GE130.out) | exact HB.out)⟩⟩
        · rw [if_neg c5] at H
          exact absurd H (by simp)
      · rw [if_neg c4] at H
        have c4b0 : decide (x6_1 < (l0.length : Int)) = false := decide_eq_false c4
        clear c4
        obtain rfl := Option.some.inj H
        go_wp2
        repeat (go_quiet (fail); try go_wp2)
        go_ret
        exact ⟨by first | rfl | (simp [errW_none, errW_some] <;> rfl) | (simp [*, errW_none, errW_some] <;> rfl), by repeat (first | (with_reducible first | exact HB.out | apply below_alloc | apply pw_below_drewN | apply below_drew1 | refine below_set ?_ GE130.out) | exact HB.out)⟩

/-! ### corrielaw17_MergeAll: function 5 -/
def corrielaw17_MergeAll.l0 : Nat → List (List (S32)) → Bool → List (S32) → Int → Int → Int → Int → Int → Option (Bool)
  | 0, _, _, _, _, _, _, _, _ => none
  | k + 1, x0, x5, x6, x7, x8, x9, x133000, x133001 => if x9 < (x0.length : Int) then (if 0 ≤ x9 then ((corrieref17_Count.f k (rd_L2 x0 x9) x133000 x133001).bind fun t139 => (corrielaw17_MergeAll.l0 k x0 x5 x6 (wrap64 (x7 + t139)) (wrap64 (x8 + ((rd_L2 x0 x9).length : Int))) (wrap64 (x9 + 1)) x133000 x133001)) else (none)) else (if x5 = true then ((corrieref17_Count.f k x6 x133000 x133001).bind fun t141 => (if t141 = x7 then (some ((x6.length : Int) == x8)) else (some false))) else (some false))
def corrielaw17_MergeAll.f (k : Nat) (l0 : List (List (S32))) (a1_0 : Int) (a1_1 : Int) : Option (Bool) := (corrielaw17_awake.f k).bind fun t133 => ((corrieref17_Few.f k l0).bind fun t134 => (if t134 = true then ((merge_Pairs.f l0 200).bind fun t135 => (corrielaw17_MergeAll.l0 k l0 t133 t135 0 0 0 a1_0 a1_1)) else (some t133)))
theorem corrielaw17_MergeAll.mono_l : ∀ k, (∀ y0 y1 y2 y3 y4 y5 y6 y7, LeO (corrielaw17_MergeAll.l0 k y0 y1 y2 y3 y4 y5 y6 y7) (corrielaw17_MergeAll.l0 (k + 1) y0 y1 y2 y3 y4 y5 y6 y7))
  | 0 => fun _ _ _ _ _ _ _ _ r h => by simp [corrielaw17_MergeAll.l0] at h
  | k + 1 => by
    have ih0 := corrielaw17_MergeAll.mono_l k
    · intro y0 y1 y2 y3 y4 y5 y6 y7
      unfold corrielaw17_MergeAll.l0
      repeat' first
      | (with_reducible exact ih0 _ _ _ _ _ _ _ _)
      | (with_reducible exact corrielaw17_awake.mono _)
      | (with_reducible exact corrieref17_Count.mono _ _ _ _)
      | (with_reducible exact corrieref17_Few.mono _ _)
      | (with_reducible exact LeO.refl _)
      | (with_reducible exact LeO.none _)
      | (with_reducible refine LeO.ite ?_ ?_)
      | (with_reducible refine LeO.bind ?_ (fun _ => ?_))
      | exact ih0 _ _ _ _ _ _ _ _
      | exact corrielaw17_awake.mono _
      | exact corrieref17_Count.mono _ _ _ _
      | exact corrieref17_Few.mono _ _
      | exact LeO.none _
      | refine LeO.ite ?_ ?_
      | refine LeO.bind ?_ (fun _ => ?_)
theorem corrielaw17_MergeAll.mono : ∀ a0 a1 a2 k, LeO (corrielaw17_MergeAll.f k a0 a1 a2) (corrielaw17_MergeAll.f (k + 1) a0 a1 a2) := by
  intro a0 a1 a2 k
  have ih0 := corrielaw17_MergeAll.mono_l k
  unfold corrielaw17_MergeAll.f
  repeat' first
      | (with_reducible exact ih0 _ _ _ _ _ _ _ _)
      | (with_reducible exact corrielaw17_awake.mono _)
      | (with_reducible exact corrieref17_Count.mono _ _ _ _)
      | (with_reducible exact corrieref17_Few.mono _ _)
      | (with_reducible exact LeO.refl _)
      | (with_reducible exact LeO.none _)
      | (with_reducible refine LeO.ite ?_ ?_)
      | (with_reducible refine LeO.bind ?_ (fun _ => ?_))
      | exact ih0 _ _ _ _ _ _ _ _
      | exact corrielaw17_awake.mono _
      | exact corrieref17_Count.mono _ _ _ _
      | exact corrieref17_Few.mono _ _
      | exact LeO.none _
      | refine LeO.ite ?_ ?_
      | refine LeO.bind ?_ (fun _ => ?_)
def corrielaw17_MergeAll.T10 : Bool × List (List Nat × List Nat) := (true, [([], []), ([], []), ([], []), ([1, 2], [1, 2]), ([3], [3]), ([], []), ([4, 5], [4, 5]), ([0, 6], [0, 6]), ([7, 6, 0, 1, 2, 3, 4, 5, 6, 7], [0, 7])])
def corrielaw17_MergeAll.B10 : List Nat := [0, 0, 0, 6, 14, 0, 62, 127, 255]
theorem corrielaw17_MergeAll.tab10 : rtab .any (opsOf Try.f5 10) = corrielaw17_MergeAll.T10 := by kernel_rfl
theorem corrielaw17_MergeAll.bits10 : waitsOk corrielaw17_MergeAll.T10.2 corrielaw17_MergeAll.B10 = true := by kernel_rfl
set_option maxHeartbeats 8000000 in
set_option maxRecDepth 100000 in
theorem corrielaw17_MergeAll.calls (k : Nat) (A0 : Option Addr) (c0 : Nat) (l0 : List (List (S32))) (a1_0 : Int) (a1_1 : Int) (r : Bool) (w : World) (hr0 : Kd.C (Kd.slice 32 k32) w A0 l0.length l0) (hc0 : l0.length ≤ c0) (h : corrielaw17_MergeAll.f k l0 a1_0 a1_1 = some r) :
    Calls Try.prog 5 #[.slice A0 l0.length c0, .agg #[.int .u64 a1_0, .int .u64 a1_1]] w fun e w' => e = .returned (.bool r) ∧ Below w.heap.size w w' := by
  have hu32 := Try.underlying32
  have HR0 := Aside0.mk hr0
  have HC0 := Aside0.mk hc0
  clear hr0 hc0
  have HB := Aside0.mk (Below.refl w.heap.size w)
  have H : ((corrielaw17_awake.f k).bind fun t133 => ((corrieref17_Few.f k l0).bind fun t134 => (if t134 = true then ((merge_Pairs.f l0 200).bind fun t135 => (corrielaw17_MergeAll.l0 k l0 t133 t135 0 0 0 a1_0 a1_1)) else (some t133)))) = some r := h
  clear h
  replace H := Option.bind_eq_some_iff.mp H
  obtain ⟨t133, A30, H⟩ := H
  replace H : ((corrieref17_Few.f k l0).bind fun t134 => (if t134 = true then ((merge_Pairs.f l0 200).bind fun t135 => (corrielaw17_MergeAll.l0 k l0 t133 t135 0 0 0 a1_0 a1_1)) else (some t133))) = some r := H
  have A3 := Aside0.mk A30
  clear A30
  replace H := Option.bind_eq_some_iff.mp H
  obtain ⟨t134, A40, H⟩ := H
  replace H : (if t134 = true then ((merge_Pairs.f l0 200).bind fun t135 => (corrielaw17_MergeAll.l0 k l0 t133 t135 0 0 0 a1_0 a1_1)) else (some t133)) = some r := H
  have A4 := Aside0.mk A40
  clear A40
  by_cases c5 : t134 = true
  · subst c5
    have H1 : ((merge_Pairs.f l0 200).bind fun t135 => (corrielaw17_MergeAll.l0 k l0 t133 t135 0 0 0 a1_0 a1_1)) = some r := by rw [if_pos rfl] at H; exact H
    clear H
    have H := H1
    clear H1
    replace H := Option.bind_eq_some_iff.mp H
    obtain ⟨t135, A60, H⟩ := H
    replace H : (corrielaw17_MergeAll.l0 k l0 t133 t135 0 0 0 a1_0 a1_1) = some r := H
    have A6 := Aside0.mk A60
    clear A60
    have H' := Aside0.mk H
    clear H
    go_enter Try.func5, Try.ntmps5
    go_wp2_with (first | ((with_reducible refine gate_dst (N := 3) rfl ?_); (try (refine gate_guard (by rfl) ?_; dsimp only)); refine box_event ?hg (N := 3) ?hd (cs := #[.int .u64 a1_0, .int .u64 a1_1]) (t := 32) ?hr ?_; (case hd => rfl); (case hg => rfl); (case hr => first | (go_simp; done) | (go_simp; rfl)); intro gb132 hg w7 hbox hb; have n0_ := Aside0.mk (below_step (by repeat (first | (with_reducible first | exact HB.out | apply below_alloc | apply pw_below_drewN | apply below_drew1) | exact HB.out)) hb); have n1_ := Aside0.mk (hbox); have n2_ := Aside0.mk ((by rw [hg]; exact (below_size (by repeat (first | (with_reducible first | exact HB.out | apply below_alloc | apply pw_below_drewN | apply below_drew1) | exact HB.out))) : w.heap.size ≤ gb132)); have n3_ := Aside0.mk ((by rw [hg]; exact (below_size (by repeat (first | (with_reducible first | exact HB.out | apply below_alloc | apply pw_below_drewN | apply below_drew1) | exact HB.out))) : w.heap.size ≤ gb132)); clear HB; have HB := n0_; have BK132 := n1_; have GW132 := n2_; have GE132 := n3_; clear n0_ n1_ n2_ n3_; clear hb hbox hg) | ((with_reducible refine gate_callee (f := 8) rfl ?_); refine goesL_ (some 10) rfl rfl Try.func8 (by kernel_rfl) rfl #[] rfl (by (try simp only [List.map_toArray, List.map_cons, List.map_nil]); first | done | rfl | (simp only [List.length_drop, List.length_take]; rfl)) ?_; (with_reducible refine (corrielaw17_awake.calls k  t133 _ A3.out).mono ?_); rintro e w8 ⟨rfl, hb⟩; refine ⟨_, rfl, ?_⟩; have n0_ := Aside0.mk (blk_below (g := gb132) (o := .cells #[.int .u64 a1_0, .int .u64 a1_1] 32 (0, 0)) (by (with_reducible repeat (first | refine blk_drewN ?_ _ | refine blk_drew ?_ | refine blk_alloc ?_ _)); exact BK132.out) hb); have n1_ := Aside0.mk (below_step (by repeat (first | (with_reducible first | exact HB.out | apply below_alloc | apply pw_below_drewN | apply below_drew1 | refine below_set ?_ GE132.out) | exact HB.out)) hb); clear BK132; clear HB; have BK132 := n0_; have HB := n1_; clear n0_ n1_; (try clear hb); (try clear hb2); (try clear hk); (try clear hi)) | ((with_reducible refine gate_callee (f := 9) rfl ?_); refine goesL_ (some 12) rfl rfl Try.func9 (by kernel_rfl) rfl #[.slice A0 l0.length c0] rfl (by (try simp only [List.map_toArray, List.map_cons, List.map_nil]); first | done | rfl | (simp only [List.length_drop, List.length_take]; rfl)) ?_; (with_reducible refine (corrieref17_Few.calls k _ _ l0 true _ ?side1 ?side2 A4.out).mono ?_); (case side1 => repeat (first | exact (Kd.C_below HR0.out HB.out) | (with_reducible refine Kd.C_alloc ?_ _) | (with_reducible refine Kd.C_drewN ?_ _) | (with_reducible refine Kd.C_drew ?_))); (case side2 => exact HC0.out); rintro e w' ⟨rfl, ⟨nd, rfl⟩⟩; refine ⟨_, rfl, ?_⟩) | ((with_reducible refine gate_callee (f := 10) rfl ?_); refine goesL_ (some 16) rfl rfl Try.func10 (by kernel_rfl) rfl #[.slice A0 l0.length c0, .int .i64 200] rfl (by (try simp only [List.map_toArray, List.map_cons, List.map_nil]); first | done | rfl | (simp only [List.length_drop, List.length_take]; rfl)) ?_; (with_reducible refine (merge_Pairs.calls _ _ l0 200 t135 _ ?side1 ?side2 A6.out).mono ?_); (case side1 => repeat (first | exact (Kd.C_below HR0.out (by repeat (first | (with_reducible first | exact HB.out | apply below_alloc | apply pw_below_drewN | apply below_drew1 | refine below_set ?_ GE132.out) | exact HB.out))) | (with_reducible refine Kd.C_alloc ?_ _) | (with_reducible refine Kd.C_drewN ?_ _) | (with_reducible refine Kd.C_drew ?_))); (case side2 => exact HC0.out); rintro e w9 ⟨v136, rfl, ho0, hb⟩; refine ⟨_, rfl, ?_⟩; have n0_ := Aside0.mk (Kd.R_lower (Kd.R_newB ho0 (g := gb132) (o := .cells #[.int .u64 a1_0, .int .u64 a1_1] 32 (0, 0)) (by (with_reducible repeat (first | refine blk_drewN ?_ _ | refine blk_drew ?_ | refine blk_alloc ?_ _)); exact BK132.out)) (below_size (by repeat (first | (with_reducible first | exact HB.out | apply below_alloc | apply pw_below_drewN | apply below_drew1 | refine below_set ?_ GE132.out) | exact HB.out)))); have n1_ := Aside0.mk (blk_below (g := gb132) (o := .cells #[.int .u64 a1_0, .int .u64 a1_1] 32 (0, 0)) (by (with_reducible repeat (first | refine blk_drewN ?_ _ | refine blk_drew ?_ | refine blk_alloc ?_ _)); exact BK132.out) hb); have n2_ := Aside0.mk (below_step (by repeat (first | (with_reducible first | exact HB.out | apply below_alloc | apply pw_below_drewN | apply below_drew1 | refine below_set ?_ GE132.out) | exact HB.out)) hb); clear BK132; clear HB; have HO137 := n0_; have BK132 := n1_; have HB := n2_; clear n0_ n1_ n2_; (try clear hb); (try clear hb2); (try clear hk); (try clear hi); (try clear ho0)))
    go_loopg [7, 8, 9] k (fun kq v7 v8 v9 w' => ∃ (x7_1 : Int) (x8_1 : Int) (x9_1 : Int), v7 = .int .i64 x7_1 ∧ v8 = .int .i64 x8_1 ∧ v9 = .int .i64 x9_1 ∧ Aside0 (corrielaw17_MergeAll.l0 kq l0 t133 t135 x7_1 x8_1 x9_1 a1_0 a1_1 = some r) ∧ Aside0 (kq ≤ k) ∧ Aside0 (Kd.R k32 32 w' w.heap.size (fun k_ => k_ ≠ gb132) v136 t135) ∧ Aside0 (w'.heap[gb132]? = some (.cells #[.int .u64 a1_0, .int .u64 a1_1] 32 (0, 0))) ∧ Aside0 (Below w.heap.size w w'))
    case atStart => exact ⟨(0), (0), (0), (by first | rfl | (simp; done) | (simp [*]; done)), (by first | rfl | (simp; done) | (simp [*]; done)), (by first | rfl | (simp; done) | (simp [*]; done)), H', ⟨Nat.le_refl _⟩, ⟨by (with_reducible repeat (first | apply Kd.R_alloc | apply Kd.R_drewN | apply Kd.R_drew)); exact Kd.R_mono HO137.out (fun _ hk => hk.2)⟩, ⟨by (with_reducible repeat (first | refine blk_drewN ?_ _ | refine blk_drew ?_ | refine blk_alloc ?_ _)); exact BK132.out⟩, ⟨by repeat (first | (with_reducible first | exact HB.out | apply below_alloc | apply pw_below_drewN | apply below_drew1 | refine below_set ?_ GE132.out) | exact HB.out)⟩⟩
    case round =>
      clear H'
      try clear c1
      try clear p2
      try clear c5
      try clear c8
      try clear c9
      obtain ⟨x7_1, x8_1, x9_1, rfl, rfl, rfl, HA, HK1, HO_6, BK132, HB⟩ := hrel
      cases gk with
      | zero => exact absurd HA.out (by simp [corrielaw17_MergeAll.l0])
      | succ k1 =>
        have H := HA.out
        clear HA
        simp only [corrielaw17_MergeAll.l0] at H
        by_cases c10 : x9_1 < (l0.length : Int)
        · rw [if_pos c10] at H
          have c10b0 : decide (x9_1 < (l0.length : Int)) = true := decide_eq_true c10
          clear c10
          by_cases c11 : 0 ≤ x9_1
          · rw [if_pos c11] at H
            have c11b0 : decide (0 ≤ x9_1) = true := decide_eq_true c11
            clear c11
            replace H := Option.bind_eq_some_iff.mp H
            obtain ⟨t139, A120, H⟩ := H
            replace H : (corrielaw17_MergeAll.l0 k1 l0 t133 t135 (wrap64 (x7_1 + t139)) (wrap64 (x8_1 + ((rd_L2 l0 x9_1).length : Int))) (wrap64 (x9_1 + 1)) a1_0 a1_1) = some r := H
            have A12 := Aside0.mk A120
            clear A120
            have H' := Aside0.mk H
            clear H
            try go_wp2
            have n0_ := Aside0.mk (Kd.R_drew HO_6.out)
            have n1_ := Aside0.mk (blk_drew BK132.out)
            have n2_ := Aside0.mk (below_drew1 HB.out)
            clear HO_6
            clear BK132
            clear HB
            have HO_6 := n0_
            have BK132 := n1_
            have HB := n2_
            clear n0_ n1_ n2_
            have p138 : 0 ≤ (x9_1 : Int) := of_decide_eq_true (by first | (with_reducible assumption) | assumption)
            have q138 : x9_1 < (l0.length : Int) := of_decide_eq_true (by first | (with_reducible assumption) | assumption)
            obtain ⟨ad138, A138_0, c138_0, e138, hx138_0, hl138_0, hi138_0⟩ := at_L2 HR0.out x9_1 p138 q138
            have hw138_0 := hx138_0
            cases e138
            replace hx138_0 := (HB.out.cell (World.block_lt_of_cell? w _ hx138_0)).trans hx138_0
            have HR138_0 := Aside0.mk hi138_0
            have HC138_0 := Aside0.mk hl138_0
            clear hi138_0 hl138_0
            replace p138 := eq_true p138
            replace q138 := eq_true q138
            refine start_ (n := 9) (S := fun w' => w'.cell? ⟨gb132, 0, none⟩ = some (.int .u64 a1_0) ∧ w'.cell? ⟨gb132, 1, none⟩ = some (.int .u64 a1_1) ∧ w'.cell? (ad138.add (x9_1).toNat) = some (.slice A138_0 (rd_L2 l0 x9_1).length c138_0)) (ds := []) #[false, false, false, false, false, false, false, false, false] (by kernel_rfl) rfl rfl ⟨(blk_cell BK132.out 0).trans rfl, (blk_cell BK132.out 1).trans rfl, ((HB.out.cell (World.block_lt_of_cell? w _ hw138_0)).trans hw138_0)⟩ (fun hHeld => ?_); refine with_tabW corrielaw17_MergeAll.tab10 corrielaw17_MergeAll.bits10 (fun HT_ HW_ => ?_)
            generalize wr.drew = w13 at HO_6 BK132 HB HR138_0 hx138_0 hHeld ⊢
            refine pure_ (i := 0) (N := some 23) (v := ?_) (a' := ?_) #[true, false, false, false, false, false, false, false, false] rfl rfl (any_of HT_.out (by kernel_rfl)) (fun _ _ _ h => h) (Or.inl ⟨by rfl, ?_⟩) ?_ ?_
            rotate_left
            · intro w'
              go_simp
              with_reducible rfl
            rotate_left
            · simp only [Act.put, List.setIfInBounds_toArray, List.set_cons_zero, List.set_cons_succ, i64_w, i32_w]
              rfl
            refine pure_ (i := 1) (N := some 24) (v := ?_) (a' := ?_) #[true, true, false, false, false, false, false, false, false] rfl rfl (any_of HT_.out (by kernel_rfl)) (fun _ _ _ h => h) (Or.inl ⟨by rfl, ?_⟩) ?_ ?_
            rotate_left
            · intro w'
              go_simp
              with_reducible rfl
            rotate_left
            · simp only [Act.put, List.setIfInBounds_toArray, List.set_cons_zero, List.set_cons_succ, i64_w, i32_w]
              rfl
            refine pure_ (i := 2) (N := some 25) (v := ?_) (a' := ?_) #[true, true, true, false, false, false, false, false, false] rfl rfl (any_of HT_.out (by kernel_rfl)) (fun _ _ _ h => h) (Or.inl ⟨by rfl, ?_⟩) ?_ ?_
            rotate_left
            · intro w'
              go_simp
              with_reducible rfl
            rotate_left
            · simp only [Act.put, List.setIfInBounds_toArray, List.set_cons_zero, List.set_cons_succ, i64_w, i32_w]
              rfl
            refine pure_ (i := 3) (N := some 26) (v := ?_) (a' := ?_) #[true, true, true, true, false, false, false, false, false] rfl rfl (any_of HT_.out (by kernel_rfl)) (fun _ _ _ h => h) (Or.inl ⟨by rfl, ?_⟩) ?_ ?_
            rotate_left
            · intro w'
              go_simp
              with_reducible rfl
            rotate_left
            · simp only [Act.put, List.setIfInBounds_toArray, List.set_cons_zero, List.set_cons_succ, i64_w, i32_w]
              rfl
            refine take_ (i := 4) (N := some 27) (v := ?_) (a' := ?_) #[true, true, true, true, true, false, false, false, false] rfl rfl (take_ofW HT_.out HW_.out (by kernel_rfl)) (fun _ _ _ h => h) (Or.inl ⟨by rfl, ?_⟩) hHeld ?_ ?_
            rotate_left
            · rintro w' ⟨s0, s1, s2⟩
              go_simp
              with_reducible rfl
            rotate_left
            · simp only [Act.put, List.setIfInBounds_toArray, List.set_cons_zero, List.set_cons_succ, i64_w, i32_w]
              rfl
            refine take_ (i := 5) (N := some 28) (v := ?_) (a' := ?_) #[true, true, true, true, true, true, false, false, false] rfl rfl (take_ofW HT_.out HW_.out (by kernel_rfl)) (fun _ _ _ h => h) (Or.inl ⟨by rfl, ?_⟩) hHeld ?_ ?_
            rotate_left
            · rintro w' ⟨s0, s1, s2⟩
              go_simp
              with_reducible rfl
            rotate_left
            · simp only [Act.put, List.setIfInBounds_toArray, List.set_cons_zero, List.set_cons_succ, i64_w, i32_w]
              rfl
            refine one_ (i := 6) (N := some 29) #[true, true, true, true, true, true, true, false, false] rfl rfl (one_of HT_.out (by kernel_rfl)) (by decide) (fun K hK => ?_)
            refine goes_ Try.func16 (by kernel_rfl) rfl #[.slice A138_0 (rd_L2 l0 x9_1).length c138_0, .agg #[.int .u64 a1_0, .int .u64 a1_1]] (by rfl) rfl rfl (by (try simp only [List.map_toArray, List.map_cons, List.map_nil]); first | done | rfl | (simp only [List.length_drop, List.length_take]; rfl)) ?_
            with_reducible refine (corrieref17_Count.calls k1 _ _ (rd_L2 l0 x9_1) a1_0 a1_1 t139 _ ?side1 ?side2 A12.out).mono ?_
            (case side1 => repeat (first | exact (Kd.C_below HR138_0.out HB.out) | (with_reducible refine Kd.C_alloc ?_ _) | (with_reducible refine Kd.C_drewN ?_ _) | (with_reducible refine Kd.C_drew ?_)))
            (case side2 => exact HC138_0.out)
            rintro e w14 ⟨rfl, hb⟩
            refine ⟨_, rfl, ?_⟩
            have n0_ := Aside0.mk (Kd.R_below (by (with_reducible repeat (first | apply Kd.R_alloc | apply Kd.R_drewN | apply Kd.R_drew)); exact HO_6.out) hb)
            have n1_ := Aside0.mk (blk_below (g := gb132) (o := .cells #[.int .u64 a1_0, .int .u64 a1_1] 32 (0, 0)) (by (with_reducible repeat (first | refine blk_drewN ?_ _ | refine blk_drew ?_ | refine blk_alloc ?_ _)); exact BK132.out) hb)
            have n2_ := Aside0.mk (below_step (by repeat (first | (with_reducible first | exact HB.out | apply below_alloc | apply pw_below_drewN | apply below_drew1 | refine below_set ?_ GE132.out) | exact HB.out)) hb)
            clear HO_6
            clear BK132
            clear HB
            have HO_6 := n0_
            have BK132 := n1_
            have HB := n2_
            clear n0_ n1_ n2_
            (try clear hb)
            (try clear hb2)
            (try clear hk)
            (try clear hi)
            refine hK.out _ _ ⟨(blk_cell BK132.out 0).trans rfl, (blk_cell BK132.out 1).trans rfl, ((HB.out.cell (World.block_lt_of_cell? w _ hw138_0)).trans hw138_0)⟩ (fun hHeld => ?_)
            clear hK K
            refine norm_ (a' := ?_) ?_ ?_
            rotate_left
            · show Act.put _ (some 29) _ = _
              simp only [Act.put, List.setIfInBounds_toArray, List.set_cons_zero, List.set_cons_succ, i64_w, i32_w]
              rfl
            refine pure_ (i := 7) (N := some 30) (v := ?_) (a' := ?_) #[true, true, true, true, true, true, true, true, false] rfl rfl (any_of HT_.out (by kernel_rfl)) (fun _ _ _ h => h) (Or.inl ⟨by rfl, ?_⟩) ?_ ?_
            rotate_left
            · intro w'
              go_simp
              with_reducible rfl
            rotate_left
            · simp only [Act.put, List.setIfInBounds_toArray, List.set_cons_zero, List.set_cons_succ, i64_w, i32_w]
              rfl
            refine pure_ (i := 8) (N := some 7) (v := ?_) (a' := ?_) #[true, true, true, true, true, true, true, true, true] rfl rfl (any_of HT_.out (by kernel_rfl)) (fun _ _ _ h => h) (Or.inl ⟨by rfl, ?_⟩) ?_ ?_
            rotate_left
            · intro w'
              go_simp
              with_reducible rfl
            rotate_left
            · simp only [Act.put, List.setIfInBounds_toArray, List.set_cons_zero, List.set_cons_succ, i64_w, i32_w]
              rfl
            refine done_ (done_of HT_.out (by kernel_rfl)) ?_
            have p140 : 0 ≤ (x9_1 : Int) := of_decide_eq_true (by first | (with_reducible assumption) | assumption)
            have q140 : x9_1 < (l0.length : Int) := of_decide_eq_true (by first | (with_reducible assumption) | assumption)
            obtain ⟨ad140, A140_0, c140_0, e140, hx140_0, hl140_0, hi140_0⟩ := at_L2 HR0.out x9_1 p140 q140
            obtain rfl : ad138 = ad140 := (by injection e140)
            replace hx140_0 := (HB.out.cell (World.block_lt_of_cell? w _ hx140_0)).trans hx140_0
            have HR140_0 := Aside0.mk hi140_0
            have HC140_0 := Aside0.mk hl140_0
            clear hi140_0 hl140_0
            replace p140 := eq_true p140
            replace q140 := eq_true q140
            try go_wp2
            go_roundg k1
            case measure => have := HK1.out; omega
            case rel => exact ⟨(wrap64 (x7_1 + t139)), (wrap64 (x8_1 + ((rd_L2 l0 x9_1).length : Int))), (wrap64 (x9_1 + 1)), (by first | rfl | (simp; done) | (simp [*]; done)), (by first | rfl | (simp; done) | (simp [*]; done)), (by first | rfl | (simp; done) | (simp [*]; done)), H', ⟨by have := HK1.out; omega⟩, ⟨by (with_reducible repeat (first | apply Kd.R_alloc | apply Kd.R_drewN | apply Kd.R_drew)); exact HO_6.out⟩, ⟨by (with_reducible repeat (first | refine blk_drewN ?_ _ | refine blk_drew ?_ | refine blk_alloc ?_ _)); exact BK132.out⟩, ⟨by repeat (first | (with_reducible first | exact HB.out | apply below_alloc | apply pw_below_drewN | apply below_drew1 | refine below_set ?_ GE132.out) | exact HB.out)⟩⟩
          · rw [if_neg c11] at H
            exact absurd H (by simp)
        · rw [if_neg c10] at H
          have c10b0 : decide (x9_1 < (l0.length : Int)) = false := decide_eq_false c10
          clear c10
          by_cases c15 : t133 = true
          · subst c15
            have H1 : ((corrieref17_Count.f k1 t135 a1_0 a1_1).bind fun t141 => (if t141 = x7_1 then (some ((t135.length : Int) == x8_1)) else (some false))) = some r := by rw [if_pos rfl] at H; exact H
            clear H
            have H := H1
            clear H1
            replace H := Option.bind_eq_some_iff.mp H
            obtain ⟨t141, A160, H⟩ := H
            replace H : (if t141 = x7_1 then (some ((t135.length : Int) == x8_1)) else (some false)) = some r := H
            have A16 := Aside0.mk A160
            clear A160
            by_cases c17 : t141 = x7_1
            · rw [if_pos c17] at H
              have c17b0 : (t141 == x7_1) = true := beq_iff_eq.mpr c17
              have c17b1 : (t141 != x7_1) = false := bne_eq_false_iff_eq.mpr c17
              clear c17
              obtain rfl := Option.some.inj H
              have hcz18_0 : wr.cell? ⟨gb132, 0, none⟩ = some (.int .u64 a1_0) := (blk_cell BK132.out 0).trans rfl
              have hcz18_1 : wr.cell? ⟨gb132, 1, none⟩ = some (.int .u64 a1_1) := (blk_cell BK132.out 1).trans rfl
              have hfz18_0 := blk_frozen BK132.out 0
              have hfz18_1 := blk_frozen BK132.out 1
              obtain ⟨Ao19, co19, eo19⟩ := Kd.R_slice HO_6.out
              subst eo19
              go_wp2_with (first | (go_at_call 16; (with_reducible refine (corrieref17_Count.calls k1 _ _ t135 a1_0 a1_1 t141 _ ?side1 ?side2 A16.out).mono ?_); (case side1 => repeat (first | exact (Kd.R_reads' HO_6.out).2.2 | (with_reducible refine Kd.C_alloc ?_ _) | (with_reducible refine Kd.C_drewN ?_ _) | (with_reducible refine Kd.C_drew ?_))); (case side2 => exact (Kd.R_reads' HO_6.out).2.1); rintro e w20 ⟨rfl, hb⟩; have n0_ := Aside0.mk (Kd.R_below (by (with_reducible repeat (first | apply Kd.R_alloc | apply Kd.R_drewN | apply Kd.R_drew)); exact HO_6.out) hb); have n1_ := Aside0.mk (blk_below (g := gb132) (o := .cells #[.int .u64 a1_0, .int .u64 a1_1] 32 (0, 0)) (by (with_reducible repeat (first | refine blk_drewN ?_ _ | refine blk_drew ?_ | refine blk_alloc ?_ _)); exact BK132.out) hb); have n2_ := Aside0.mk (below_step (by repeat (first | (with_reducible first | exact HB.out | apply below_alloc | apply pw_below_drewN | apply below_drew1 | refine below_set ?_ GE132.out) | exact HB.out)) hb); clear HO_6; clear BK132; clear HB; have HO_6 := n0_; have BK132 := n1_; have HB := n2_; clear n0_ n1_ n2_; (try clear hb); (try clear hb2); (try clear hk); (try clear hi)))
              go_ret
              exact ⟨by first | rfl | (simp [errW_none, errW_some] <;> rfl) | (simp [*, errW_none, errW_some] <;> rfl), by repeat (first | (with_reducible first | exact HB.out | apply below_alloc | apply pw_below_drewN | apply below_drew1 | refine below_set ?_ GE132.out) | exact HB.out)⟩
            · rw [if_neg c17] at H
              have c17b0 : (t141 == x7_1) = false := beq_eq_false_iff_ne.mpr c17
              have c17b1 : (t141 != x7_1) = true := bne_iff_ne.mpr c17
              obtain rfl := Option.some.inj H
              have hcz21_0 : wr.cell? ⟨gb132, 0, none⟩ = some (.int .u64 a1_0) := (blk_cell BK132.out 0).trans rfl
              have hcz21_1 : wr.cell? ⟨gb132, 1, none⟩ = some (.int .u64 a1_1) := (blk_cell BK132.out 1).trans rfl
              have hfz21_0 := blk_frozen BK132.out 0
              have hfz21_1 := blk_frozen BK132.out 1
              obtain ⟨Ao22, co22, eo22⟩ := Kd.R_slice HO_6.out
              subst eo22
              go_wp2_with (first | (go_at_call 16; (with_reducible refine (corrieref17_Count.calls k1 _ _ t135 a1_0 a1_1 t141 _ ?side1 ?side2 A16.out).mono ?_); (case side1 => repeat (first | exact (Kd.R_reads' HO_6.out).2.2 | (with_reducible refine Kd.C_alloc ?_ _) | (with_reducible refine Kd.C_drewN ?_ _) | (with_reducible refine Kd.C_drew ?_))); (case side2 => exact (Kd.R_reads' HO_6.out).2.1); rintro e w23 ⟨rfl, hb⟩; have n0_ := Aside0.mk (Kd.R_below (by (with_reducible repeat (first | apply Kd.R_alloc | apply Kd.R_drewN | apply Kd.R_drew)); exact HO_6.out) hb); have n1_ := Aside0.mk (blk_below (g := gb132) (o := .cells #[.int .u64 a1_0, .int .u64 a1_1] 32 (0, 0)) (by (with_reducible repeat (first | refine blk_drewN ?_ _ | refine blk_drew ?_ | refine blk_alloc ?_ _)); exact BK132.out) hb); have n2_ := Aside0.mk (below_step (by repeat (first | (with_reducible first | exact HB.out | apply below_alloc | apply pw_below_drewN | apply below_drew1 | refine below_set ?_ GE132.out) | exact HB.out)) hb); clear HO_6; clear BK132; clear HB; have HO_6 := n0_; have BK132 := n1_; have HB := n2_; clear n0_ n1_ n2_; (try clear hb); (try clear hb2); (try clear hk); (try clear hi)))
              go_ret
              exact ⟨by first | rfl | (simp [errW_none, errW_some] <;> rfl) | (simp [*, errW_none, errW_some] <;> rfl), by repeat (first | (with_reducible first | exact HB.out | apply below_alloc | apply pw_below_drewN | apply below_drew1 | refine below_set ?_ GE132.out) | exact HB.out)⟩
          · replace c15 := Bool.eq_false_iff.mpr c15
            subst c15
            have H1 : (some false) = some r := by rw [if_neg (show ¬ (false = true) by decide)] at H; exact H
            clear H
            have H := H1
            clear H1
            obtain rfl := Option.some.inj H
            go_wp2
            go_ret
            exact ⟨by first | rfl | (simp [errW_none, errW_some] <;> rfl) | (simp [*, errW_none, errW_some] <;> rfl), by repeat (first | (with_reducible first | exact HB.out | apply below_alloc | apply pw_below_drewN | apply below_drew1 | refine below_set ?_ GE132.out) | exact HB.out)⟩
  · replace c5 := Bool.eq_false_iff.mpr c5
    subst c5
    have H1 : (some t133) = some r := by rw [if_neg (show ¬ (false = true) by decide)] at H; exact H
    clear H
    have H := H1
    clear H1
    obtain rfl := Option.some.inj H
    go_enter Try.func5, Try.ntmps5
    go_wp2_with (first | ((with_reducible refine gate_dst (N := 3) rfl ?_); (try (refine gate_guard (by rfl) ?_; dsimp only)); refine box_event ?hg (N := 3) ?hd (cs := #[.int .u64 a1_0, .int .u64 a1_1]) (t := 32) ?hr ?_; (case hd => rfl); (case hg => rfl); (case hr => first | (go_simp; done) | (go_simp; rfl)); intro gb132 hg w24 hbox hb; have n0_ := Aside0.mk (below_step (by repeat (first | (with_reducible first | exact HB.out | apply below_alloc | apply pw_below_drewN | apply below_drew1) | exact HB.out)) hb); have n1_ := Aside0.mk (hbox); have n2_ := Aside0.mk ((by rw [hg]; exact (below_size (by repeat (first | (with_reducible first | exact HB.out | apply below_alloc | apply pw_below_drewN | apply below_drew1) | exact HB.out))) : w.heap.size ≤ gb132)); have n3_ := Aside0.mk ((by rw [hg]; exact (below_size (by repeat (first | (with_reducible first | exact HB.out | apply below_alloc | apply pw_below_drewN | apply below_drew1) | exact HB.out))) : w.heap.size ≤ gb132)); clear HB; have HB := n0_; have BK132 := n1_; have GW132 := n2_; have GE132 := n3_; clear n0_ n1_ n2_ n3_; clear hb hbox hg) | ((with_reducible refine gate_callee (f := 8) rfl ?_); refine goesL_ (some 10) rfl rfl Try.func8 (by kernel_rfl) rfl #[] rfl (by (try simp only [List.map_toArray, List.map_cons, List.map_nil]); first | done | rfl | (simp only [List.length_drop, List.length_take]; rfl)) ?_; (with_reducible refine (corrielaw17_awake.calls k  t133 _ A3.out).mono ?_); rintro e w25 ⟨rfl, hb⟩; refine ⟨_, rfl, ?_⟩; have n0_ := Aside0.mk (blk_below (g := gb132) (o := .cells #[.int .u64 a1_0, .int .u64 a1_1] 32 (0, 0)) (by (with_reducible repeat (first | refine blk_drewN ?_ _ | refine blk_drew ?_ | refine blk_alloc ?_ _)); exact BK132.out) hb); have n1_ := Aside0.mk (below_step (by repeat (first | (with_reducible first | exact HB.out | apply below_alloc | apply pw_below_drewN | apply below_drew1 | refine below_set ?_ GE132.out) | exact HB.out)) hb); clear BK132; clear HB; have BK132 := n0_; have HB := n1_; clear n0_ n1_; (try clear hb); (try clear hb2); (try clear hk); (try clear hi)) | ((with_reducible refine gate_callee (f := 9) rfl ?_); refine goesL_ (some 12) rfl rfl Try.func9 (by kernel_rfl) rfl #[.slice A0 l0.length c0] rfl (by (try simp only [List.map_toArray, List.map_cons, List.map_nil]); first | done | rfl | (simp only [List.length_drop, List.length_take]; rfl)) ?_; (with_reducible refine (corrieref17_Few.calls k _ _ l0 false _ ?side1 ?side2 A4.out).mono ?_); (case side1 => repeat (first | exact (Kd.C_below HR0.out HB.out) | (with_reducible refine Kd.C_alloc ?_ _) | (with_reducible refine Kd.C_drewN ?_ _) | (with_reducible refine Kd.C_drew ?_))); (case side2 => exact HC0.out); rintro e w' ⟨rfl, ⟨nd, rfl⟩⟩; refine ⟨_, rfl, ?_⟩))
    go_ret
    exact ⟨by first | rfl | (simp [errW_none, errW_some] <;> rfl) | (simp [*, errW_none, errW_some] <;> rfl), by repeat (first | (with_reducible first | exact HB.out | apply below_alloc | apply pw_below_drewN | apply below_drew1 | refine below_set ?_ GE132.out) | exact HB.out)⟩

end Go.Proofs.Ytahifbdggbeajab.PMergeAll
