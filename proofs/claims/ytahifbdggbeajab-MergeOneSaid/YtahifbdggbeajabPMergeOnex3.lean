-- Written by a program of this session: a variant of the print that takes proofs by hand (wip/tools/mkprint.py)
import Derived.Test.YtahifbdggbeajabPMergeOnex0
import Derived.Test.YtahifbdggbeajabPMergeOnex1
import Derived.Test.YtahifbdggbeajabPMergeOnex2
namespace Go.Proofs.Ytahifbdggbeajab.PMergeOne
open Go.RowKit Go.Proofs.YtahifbdggbeajabW.PrintWords Go.Proofs.YtahifbdggbeajabW.PrintLast Go.Proofs.YtahifbdggbeajabW.PrintMore
attribute [local go_sem] max2_int min2_int max_two min_two max_three min_three max_four min_four   -- for this text's walks alone
set_option linter.unusedVariables false
set_option linter.unusedSimpArgs false

attribute [local go_sem high] eqA32
/-! ### corrielaw17_awake: function 8 -/
def corrielaw17_awake.f (k : Nat)  : Option (Bool) := (some (([(([(⟨1, 0⟩ : S32), (⟨4, 0⟩ : S32)] : List (S32))), (([(⟨2, 0⟩ : S32), (⟨3, 0⟩ : S32)] : List (S32)))] : List (List (S32))) : List (List (S32)))).bind fun y109 => ((merge_Pairs.f y109 9).bind fun t112 => ((merge_Pairs.f y109 2).bind fun t115 => (if (t112.length : Int) = 4 then (if 1 < (t112.length : Int) then (if ((rd_T32 t112 1).f0) = 2 then (if 3 < (t112.length : Int) then (if ((rd_T32 t112 3).f0) = 4 then (if (t115.length : Int) = 2 then (if 1 < (t115.length : Int) then (if ((rd_T32 t115 1).f0) = 2 then ((merge_Rises.f k t112).bind fun t121 => (if t121 = true then ((merge_Rises.f k (([(⟨0, 0⟩ : S32), (⟨0, 0⟩ : S32)] : List (S32)))).bind fun t125 => (if t125 = true then (some false) else ((merge_Pairs.f y109 (-1)).bind fun t126 => (some ((t126.length : Int) == 0))))) else (some false))) else (some false)) else (none)) else (some false)) else (some false)) else (none)) else (some false)) else (none)) else (some false))))
theorem corrielaw17_awake.mono : ∀ k, LeO (corrielaw17_awake.f k ) (corrielaw17_awake.f (k + 1) ) := by
  intro  k
  unfold corrielaw17_awake.f
  repeat' first
      | (with_reducible exact merge_Rises.mono _ _)
      | (with_reducible exact LeO.refl _)
      | (with_reducible exact LeO.none _)
      | (with_reducible refine LeO.ite ?_ ?_)
      | (with_reducible refine LeO.bind ?_ (fun _ => ?_))
      | exact merge_Rises.mono _ _
      | exact LeO.none _
      | refine LeO.ite ?_ ?_
      | refine LeO.bind ?_ (fun _ => ?_)
set_option maxHeartbeats 8000000 in
set_option maxRecDepth 100000 in
theorem corrielaw17_awake.calls (k : Nat)  (r : Bool) (w : World) (h : corrielaw17_awake.f k  = some r) :
    Calls Try.prog 8 #[] w fun e w' => e = .returned (.bool r) ∧ Below w.heap.size w w' := by
  have hu32 := Try.underlying32
  have HB := Aside0.mk (Below.refl w.heap.size w)
  have H : ((some (([(([(⟨1, 0⟩ : S32), (⟨4, 0⟩ : S32)] : List (S32))), (([(⟨2, 0⟩ : S32), (⟨3, 0⟩ : S32)] : List (S32)))] : List (List (S32))) : List (List (S32)))).bind fun y109 => ((merge_Pairs.f y109 9).bind fun t112 => ((merge_Pairs.f y109 2).bind fun t115 => (if (t112.length : Int) = 4 then (if 1 < (t112.length : Int) then (if ((rd_T32 t112 1).f0) = 2 then (if 3 < (t112.length : Int) then (if ((rd_T32 t112 3).f0) = 4 then (if (t115.length : Int) = 2 then (if 1 < (t115.length : Int) then (if ((rd_T32 t115 1).f0) = 2 then ((merge_Rises.f k t112).bind fun t121 => (if t121 = true then ((merge_Rises.f k (([(⟨0, 0⟩ : S32), (⟨0, 0⟩ : S32)] : List (S32)))).bind fun t125 => (if t125 = true then (some false) else ((merge_Pairs.f y109 (-1)).bind fun t126 => (some ((t126.length : Int) == 0))))) else (some false))) else (some false)) else (none)) else (some false)) else (some false)) else (none)) else (some false)) else (none)) else (some false))))) = some r := h
  clear h
  obtain ⟨y103, hy103⟩ : ∃ y_ : List (S32), y_ = (([(⟨1, 0⟩ : S32), (⟨4, 0⟩ : S32)] : List (S32))) := ⟨_, rfl⟩
  replace H : ((some (([y103, (([(⟨2, 0⟩ : S32), (⟨3, 0⟩ : S32)] : List (S32)))] : List (List (S32))) : List (List (S32)))).bind fun y109 => ((merge_Pairs.f y109 9).bind fun t112 => ((merge_Pairs.f y109 2).bind fun t115 => (if (t112.length : Int) = 4 then (if 1 < (t112.length : Int) then (if ((rd_T32 t112 1).f0) = 2 then (if 3 < (t112.length : Int) then (if ((rd_T32 t112 3).f0) = 4 then (if (t115.length : Int) = 2 then (if 1 < (t115.length : Int) then (if ((rd_T32 t115 1).f0) = 2 then ((merge_Rises.f k t112).bind fun t121 => (if t121 = true then ((merge_Rises.f k (([(⟨0, 0⟩ : S32), (⟨0, 0⟩ : S32)] : List (S32)))).bind fun t125 => (if t125 = true then (some false) else ((merge_Pairs.f y109 (-1)).bind fun t126 => (some ((t126.length : Int) == 0))))) else (some false))) else (some false)) else (none)) else (some false)) else (some false)) else (none)) else (some false)) else (none)) else (some false))))) = some r := by first | (rw [hy103]; with_reducible exact H) | (have H2_ := (Option.bind_some _ _).symm.trans H; rw [hy103]; with_reducible exact H2_) | (have H2_ := (Option.bind_some _ _).symm.trans H; with_reducible exact H2_) | with_reducible exact H | (rw [hy103]; exact H) | exact H
  have Ny103 := Aside0.mk hy103
  clear hy103
  obtain ⟨y106, hy106⟩ : ∃ y_ : List (S32), y_ = (([(⟨2, 0⟩ : S32), (⟨3, 0⟩ : S32)] : List (S32))) := ⟨_, rfl⟩
  replace H : ((some (([y103, y106] : List (List (S32))) : List (List (S32)))).bind fun y109 => ((merge_Pairs.f y109 9).bind fun t112 => ((merge_Pairs.f y109 2).bind fun t115 => (if (t112.length : Int) = 4 then (if 1 < (t112.length : Int) then (if ((rd_T32 t112 1).f0) = 2 then (if 3 < (t112.length : Int) then (if ((rd_T32 t112 3).f0) = 4 then (if (t115.length : Int) = 2 then (if 1 < (t115.length : Int) then (if ((rd_T32 t115 1).f0) = 2 then ((merge_Rises.f k t112).bind fun t121 => (if t121 = true then ((merge_Rises.f k (([(⟨0, 0⟩ : S32), (⟨0, 0⟩ : S32)] : List (S32)))).bind fun t125 => (if t125 = true then (some false) else ((merge_Pairs.f y109 (-1)).bind fun t126 => (some ((t126.length : Int) == 0))))) else (some false))) else (some false)) else (none)) else (some false)) else (some false)) else (none)) else (some false)) else (none)) else (some false))))) = some r := by first | (rw [hy106]; with_reducible exact H) | (have H2_ := (Option.bind_some _ _).symm.trans H; rw [hy106]; with_reducible exact H2_) | (have H2_ := (Option.bind_some _ _).symm.trans H; with_reducible exact H2_) | with_reducible exact H | (rw [hy106]; exact H) | exact H
  have Ny106 := Aside0.mk hy106
  clear hy106
  obtain ⟨y109, hy109⟩ : ∃ y_ : List (List (S32)), y_ = (([y103, y106] : List (List (S32)))) := ⟨_, rfl⟩
  replace H : ((merge_Pairs.f y109 9).bind fun t112 => ((merge_Pairs.f y109 2).bind fun t115 => (if (t112.length : Int) = 4 then (if 1 < (t112.length : Int) then (if ((rd_T32 t112 1).f0) = 2 then (if 3 < (t112.length : Int) then (if ((rd_T32 t112 3).f0) = 4 then (if (t115.length : Int) = 2 then (if 1 < (t115.length : Int) then (if ((rd_T32 t115 1).f0) = 2 then ((merge_Rises.f k t112).bind fun t121 => (if t121 = true then ((merge_Rises.f k (([(⟨0, 0⟩ : S32), (⟨0, 0⟩ : S32)] : List (S32)))).bind fun t125 => (if t125 = true then (some false) else ((merge_Pairs.f y109 (-1)).bind fun t126 => (some ((t126.length : Int) == 0))))) else (some false))) else (some false)) else (none)) else (some false)) else (some false)) else (none)) else (some false)) else (none)) else (some false)))) = some r := by first | (rw [hy109]; with_reducible exact H) | (have H2_ := (Option.bind_some _ _).symm.trans H; rw [hy109]; with_reducible exact H2_) | (have H2_ := (Option.bind_some _ _).symm.trans H; with_reducible exact H2_) | with_reducible exact H | (rw [hy109]; exact H) | exact H
  have Ny109 := Aside0.mk hy109
  clear hy109
  replace H := Option.bind_eq_some_iff.mp H
  obtain ⟨t112, A10, H⟩ := H
  replace H : ((merge_Pairs.f y109 2).bind fun t115 => (if (t112.length : Int) = 4 then (if 1 < (t112.length : Int) then (if ((rd_T32 t112 1).f0) = 2 then (if 3 < (t112.length : Int) then (if ((rd_T32 t112 3).f0) = 4 then (if (t115.length : Int) = 2 then (if 1 < (t115.length : Int) then (if ((rd_T32 t115 1).f0) = 2 then ((merge_Rises.f k t112).bind fun t121 => (if t121 = true then ((merge_Rises.f k (([(⟨0, 0⟩ : S32), (⟨0, 0⟩ : S32)] : List (S32)))).bind fun t125 => (if t125 = true then (some false) else ((merge_Pairs.f y109 (-1)).bind fun t126 => (some ((t126.length : Int) == 0))))) else (some false))) else (some false)) else (none)) else (some false)) else (some false)) else (none)) else (some false)) else (none)) else (some false))) = some r := H
  have A1 := Aside0.mk A10
  clear A10
  replace H := Option.bind_eq_some_iff.mp H
  obtain ⟨t115, A20, H⟩ := H
  replace H : (if (t112.length : Int) = 4 then (if 1 < (t112.length : Int) then (if ((rd_T32 t112 1).f0) = 2 then (if 3 < (t112.length : Int) then (if ((rd_T32 t112 3).f0) = 4 then (if (t115.length : Int) = 2 then (if 1 < (t115.length : Int) then (if ((rd_T32 t115 1).f0) = 2 then ((merge_Rises.f k t112).bind fun t121 => (if t121 = true then ((merge_Rises.f k (([(⟨0, 0⟩ : S32), (⟨0, 0⟩ : S32)] : List (S32)))).bind fun t125 => (if t125 = true then (some false) else ((merge_Pairs.f y109 (-1)).bind fun t126 => (some ((t126.length : Int) == 0))))) else (some false))) else (some false)) else (none)) else (some false)) else (some false)) else (none)) else (some false)) else (none)) else (some false)) = some r := H
  have A2 := Aside0.mk A20
  clear A20
  by_cases c3 : (t112.length : Int) = 4
  · rw [if_pos c3] at H
    have c3b0 : ((t112.length : Int) == 4) = true := beq_iff_eq.mpr c3
    have c3b1 : ((t112.length : Int) != 4) = false := bne_eq_false_iff_eq.mpr c3
    clear c3
    by_cases c4 : 1 < (t112.length : Int)
    · rw [if_pos c4] at H
      have c4b0 : decide (1 < (t112.length : Int)) = true := decide_eq_true c4
      have c4b1 : decide (1 < t112.length) = true := decide_eq_true (by omega)
      clear c4
      by_cases c5 : ((rd_T32 t112 1).f0) = 2
      · rw [if_pos c5] at H
        have c5b0 : (((rd_T32 t112 1).f0) == 2) = true := beq_iff_eq.mpr c5
        have c5b1 : (((rd_T32 t112 1).f0) != 2) = false := bne_eq_false_iff_eq.mpr c5
        clear c5
        by_cases c6 : 3 < (t112.length : Int)
        · rw [if_pos c6] at H
          have c6b0 : decide (3 < (t112.length : Int)) = true := decide_eq_true c6
          have c6b1 : decide (3 < t112.length) = true := decide_eq_true (by omega)
          clear c6
          by_cases c7 : ((rd_T32 t112 3).f0) = 4
          · rw [if_pos c7] at H
            have c7b0 : (((rd_T32 t112 3).f0) == 4) = true := beq_iff_eq.mpr c7
            have c7b1 : (((rd_T32 t112 3).f0) != 4) = false := bne_eq_false_iff_eq.mpr c7
            clear c7
            by_cases c8 : (t115.length : Int) = 2
            · rw [if_pos c8] at H
              have c8b0 : ((t115.length : Int) == 2) = true := beq_iff_eq.mpr c8
              have c8b1 : ((t115.length : Int) != 2) = false := bne_eq_false_iff_eq.mpr c8
              clear c8
              by_cases c9 : 1 < (t115.length : Int)
              · rw [if_pos c9] at H
                have c9b0 : decide (1 < (t115.length : Int)) = true := decide_eq_true c9
                have c9b1 : decide (1 < t115.length) = true := decide_eq_true (by omega)
                clear c9
                by_cases c10 : ((rd_T32 t115 1).f0) = 2
                · rw [if_pos c10] at H
                  have c10b0 : (((rd_T32 t115 1).f0) == 2) = true := beq_iff_eq.mpr c10
                  have c10b1 : (((rd_T32 t115 1).f0) != 2) = false := bne_eq_false_iff_eq.mpr c10
                  clear c10
                  replace H := Option.bind_eq_some_iff.mp H
                  obtain ⟨t121, A110, H⟩ := H
                  replace H : (if t121 = true then ((merge_Rises.f k (([(⟨0, 0⟩ : S32), (⟨0, 0⟩ : S32)] : List (S32)))).bind fun t125 => (if t125 = true then (some false) else ((merge_Pairs.f y109 (-1)).bind fun t126 => (some ((t126.length : Int) == 0))))) else (some false)) = some r := H
                  have A11 := Aside0.mk A110
                  clear A110
                  by_cases c12 : t121 = true
                  · subst c12
                    have H1 : ((merge_Rises.f k (([(⟨0, 0⟩ : S32), (⟨0, 0⟩ : S32)] : List (S32)))).bind fun t125 => (if t125 = true then (some false) else ((merge_Pairs.f y109 (-1)).bind fun t126 => (some ((t126.length : Int) == 0))))) = some r := by rw [if_pos rfl] at H; exact H
                    clear H
                    have H := H1
                    clear H1
                    obtain ⟨y122, hy122⟩ : ∃ y_ : List (S32), y_ = (([(⟨0, 0⟩ : S32), (⟨0, 0⟩ : S32)] : List (S32))) := ⟨_, rfl⟩
                    replace H : ((merge_Rises.f k y122).bind fun t125 => (if t125 = true then (some false) else ((merge_Pairs.f y109 (-1)).bind fun t126 => (some ((t126.length : Int) == 0))))) = some r := by first | (rw [hy122]; with_reducible exact H) | (have H2_ := (Option.bind_some _ _).symm.trans H; rw [hy122]; with_reducible exact H2_) | (have H2_ := (Option.bind_some _ _).symm.trans H; with_reducible exact H2_) | with_reducible exact H | (rw [hy122]; exact H) | exact H
                    have Ny122 := Aside0.mk hy122
                    clear hy122
                    replace H := Option.bind_eq_some_iff.mp H
                    obtain ⟨t125, A130, H⟩ := H
                    replace H : (if t125 = true then (some false) else ((merge_Pairs.f y109 (-1)).bind fun t126 => (some ((t126.length : Int) == 0)))) = some r := H
                    have A13 := Aside0.mk A130
                    clear A130
                    by_cases c14 : t125 = true
                    · subst c14
                      have H1 : (some false) = some r := by rw [if_pos rfl] at H; exact H
                      clear H
                      have H := H1
                      clear H1
                      obtain rfl := Option.some.inj H
                      go_enter Try.func8, Try.ntmps8
                      go_wp2_with (first | ((with_reducible refine gate_dst (N := 6) rfl ?_); (try (refine gate_guard (by rfl) ?_; dsimp only)); refine Kd.R_lit k32 _ 32 ?hg (N := 6) ?hd (xs := ([(⟨1, 0⟩ : S32), (⟨4, 0⟩ : S32)] : List (S32))) (inner := [.int .u64 1, .int .u64 0, .int .u64 4, .int .u64 0]) (ok := fun _ => True) (okp := fun _ => True) ?hr ?hp (fun _ hk => hk) trivial (Below.refl _ _) (Nat.le_refl _) (by simp) ?_; (case hd => rfl); (case hg => rfl); (case hr => first | (go_simp; done) | (go_simp; rfl)); (case hp => exact (Reps.c2 (show Kd.M k32 _ _ _ (⟨1, 0⟩ : S32) [.int .u64 1, .int .u64 0] from (k32_mkM _ _ _ (⟨1, 0⟩ : S32) )) (Reps.c2 (show Kd.M k32 _ _ _ (⟨4, 0⟩ : S32) [.int .u64 4, .int .u64 0] from (k32_mkM _ _ _ (⟨4, 0⟩ : S32) )) (Reps.none _ _)))); intro v104 w15 ho16 hb hg_ hnew_; clear hg_ hnew_; (first | rw [← Ny103.out] at ho16 | (simp only [Int.reduceToNat] at ho16; rw [← Ny103.out] at ho16)); have n0_ := Aside0.mk (Kd.R_lower ho16 (below_size (by repeat (first | (with_reducible first | exact HB.out | apply below_alloc | apply pw_below_drewN | apply below_drew1) | exact HB.out)))); have n1_ := Aside0.mk (below_step (by repeat (first | (with_reducible first | exact HB.out | apply below_alloc | apply pw_below_drewN | apply below_drew1) | exact HB.out)) hb); clear HB; have HO105 := n0_; have HB := n1_; clear n0_ n1_; clear hb ho16) | ((with_reducible refine gate_dst (N := 9) rfl ?_); (try (refine gate_guard (by rfl) ?_; dsimp only)); refine Kd.R_lit k32 _ 32 ?hg (N := 9) ?hd (xs := ([(⟨2, 0⟩ : S32), (⟨3, 0⟩ : S32)] : List (S32))) (inner := [.int .u64 2, .int .u64 0, .int .u64 3, .int .u64 0]) (ok := fun _ => True) (okp := fun _ => True) ?hr ?hp (fun _ hk => hk) trivial (Below.refl _ _) (Nat.le_refl _) (by simp) ?_; (case hd => rfl); (case hg => rfl); (case hr => first | (go_simp; done) | (go_simp; rfl)); (case hp => exact (Reps.c2 (show Kd.M k32 _ _ _ (⟨2, 0⟩ : S32) [.int .u64 2, .int .u64 0] from (k32_mkM _ _ _ (⟨2, 0⟩ : S32) )) (Reps.c2 (show Kd.M k32 _ _ _ (⟨3, 0⟩ : S32) [.int .u64 3, .int .u64 0] from (k32_mkM _ _ _ (⟨3, 0⟩ : S32) )) (Reps.none _ _)))); intro v107 w17 ho18 hb hg_ hnew_; clear hg_ hnew_; (first | rw [← Ny106.out] at ho18 | (simp only [Int.reduceToNat] at ho18; rw [← Ny106.out] at ho18)); have n0_ := Aside0.mk (Kd.R_elder' (by (with_reducible repeat (first | apply Kd.R_alloc | apply Kd.R_drewN | apply Kd.R_drew)); exact HO105.out) (Kd.R_base ho18) hb); have n1_ := Aside0.mk (Kd.R_lower (Kd.R_new' ho18 (Kd.R_lt (by (with_reducible repeat (first | apply Kd.R_alloc | apply Kd.R_drewN | apply Kd.R_drew)); exact HO105.out))) (below_size (by repeat (first | (with_reducible first | exact HB.out | apply below_alloc | apply pw_below_drewN | apply below_drew1) | exact HB.out)))); have n2_ := Aside0.mk (below_step (by repeat (first | (with_reducible first | exact HB.out | apply below_alloc | apply pw_below_drewN | apply below_drew1) | exact HB.out)) hb); clear HO105; clear HB; have HO105 := n0_; have HO108 := n1_; have HB := n2_; clear n0_ n1_ n2_; clear hb ho18; obtain ⟨Ao19, co19, eo19⟩ := Kd.R_slice HO105.out; subst eo19; obtain ⟨Ao20, co20, eo20⟩ := Kd.R_slice HO108.out; subst eo20) | ((with_reducible refine gate_dst (N := 10) rfl ?_); (try (refine gate_guard (by rfl) ?_; dsimp only)); refine Kd.N_lit (Kd.slice 32 k32) _ 25 ?hg (N' := 10) ?hd (xs := ([y103, y106] : List (List (S32)))) (inner := [.slice Ao19 y103.length co19, .slice Ao20 y106.length co20]) (ok := (fun _ => True)) (okp := (fun _ => True)) ?hr ?hp (fun _ hk => hk) ((show ∀ k_, w17.heap.size ≤ k_ → (fun _ => True) k_ from fun k_ hk => trivial) _ (Nat.le_refl _)) (Below.refl _ _) (Nat.le_refl _) (by simp) ?_; (case hd => rfl); (case hg => rfl); (case hr => first | (go_simp; done) | (go_simp; rfl)); (case hp => exact (Reps.one (show Kd.FK (Kd.slice 32 k32) _ _ y103 [.slice Ao19 y103.length co19] from (Kd.FK_slice_mk (Kd.R_reads' (Kd.R_mono (ok' := (fun _ => True)) (HO105.out) (fun k_ hk => trivial))).2.1 (Kd.R_F (Kd.R_mono (ok' := (fun _ => True)) (HO105.out) (fun k_ hk => trivial))))) (Reps.one (show Kd.FK (Kd.slice 32 k32) _ _ y106 [.slice Ao20 y106.length co20] from (Kd.FK_slice_mk (Kd.R_reads' (Kd.R_mono (ok' := (fun _ => True)) (HO108.out) (fun k_ hk => trivial))).2.1 (Kd.R_F (Kd.R_mono (ok' := (fun _ => True)) (HO108.out) (fun k_ hk => trivial))))) (Reps.none _ _)))); intro v110 w21 ho22 hb hg_ hnew_; clear hg_ hnew_; (first | rw [← Ny109.out] at ho22 | (simp only [Int.reduceToNat] at ho22; rw [← Ny109.out] at ho22)); have n0_ := Aside0.mk (Kd.N_lower ho22 (below_size (by repeat (first | (with_reducible first | exact HB.out | apply below_alloc | apply pw_below_drewN | apply below_drew1) | exact HB.out)))); have n1_ := Aside0.mk (below_step (by repeat (first | (with_reducible first | exact HB.out | apply below_alloc | apply pw_below_drewN | apply below_drew1) | exact HB.out)) hb); clear HB; clear HO105; clear HO108; have HO111 := n0_; have HB := n1_; clear n0_ n1_; clear hb ho22; obtain ⟨Ao23, co23, eo23⟩ := Kd.N_slice HO111.out; subst eo23) | ((with_reducible refine gate_callee (f := 10) rfl ?_); refine goesL_ (some 12) rfl rfl Try.func10 (by kernel_rfl) rfl #[.slice Ao23 y109.length co23, .int .i64 9] rfl (by (try simp only [List.map_toArray, List.map_cons, List.map_nil]); first | done | rfl | (simp only [List.length_drop, List.length_take]; rfl)) ?_; (with_reducible refine (merge_Pairs.calls _ _ y109 9 t112 _ ?side1 ?side2 A1.out).mono ?_); (case side1 => repeat (first | exact (Kd.N_reads' HO111.out).2.2 | (with_reducible refine Kd.C_alloc ?_ _) | (with_reducible refine Kd.C_drewN ?_ _) | (with_reducible refine Kd.C_drew ?_))); (case side2 => exact (Kd.N_reads' HO111.out).2.1); rintro e w24 ⟨v113, rfl, ho0, hb⟩; refine ⟨_, rfl, ?_⟩; have n0_ := Aside0.mk (Kd.N_elder' (by (with_reducible repeat (first | apply Kd.N_alloc | apply Kd.N_drewN | apply Kd.N_drew)); exact HO111.out) (Kd.R_base ho0) hb); have n1_ := Aside0.mk (Kd.R_lower ho0 (below_size (by repeat (first | (with_reducible first | exact HB.out | apply below_alloc | apply pw_below_drewN | apply below_drew1) | exact HB.out)))); have n2_ := Aside0.mk (below_step (by repeat (first | (with_reducible first | exact HB.out | apply below_alloc | apply pw_below_drewN | apply below_drew1) | exact HB.out)) hb); clear HO111; clear HB; have HO111 := n0_; have HO114 := n1_; have HB := n2_; clear n0_ n1_ n2_; (try clear hb); (try clear hb2); (try clear hk); (try clear hi); (try clear ho0)) | ((with_reducible refine gate_callee (f := 10) rfl ?_); refine goesL_ (some 14) rfl rfl Try.func10 (by kernel_rfl) rfl #[.slice Ao23 y109.length co23, .int .i64 2] rfl (by (try simp only [List.map_toArray, List.map_cons, List.map_nil]); first | done | rfl | (simp only [List.length_drop, List.length_take]; rfl)) ?_; (with_reducible refine (merge_Pairs.calls _ _ y109 2 t115 _ ?side1 ?side2 A2.out).mono ?_); (case side1 => repeat (first | exact (Kd.N_reads' HO111.out).2.2 | (with_reducible refine Kd.C_alloc ?_ _) | (with_reducible refine Kd.C_drewN ?_ _) | (with_reducible refine Kd.C_drew ?_))); (case side2 => exact (Kd.N_reads' HO111.out).2.1); rintro e w25 ⟨v116, rfl, ho0, hb⟩; refine ⟨_, rfl, ?_⟩; have n0_ := Aside0.mk (Kd.N_elder' (by (with_reducible repeat (first | apply Kd.N_alloc | apply Kd.N_drewN | apply Kd.N_drew)); exact HO111.out) (Kd.R_base ho0) hb); have n1_ := Aside0.mk (Kd.R_elder' (by (with_reducible repeat (first | apply Kd.R_alloc | apply Kd.R_drewN | apply Kd.R_drew)); exact HO114.out) (Kd.R_base ho0) hb); have n2_ := Aside0.mk (Kd.R_lower (Kd.R_new' ho0 (Kd.R_lt (by (with_reducible repeat (first | apply Kd.R_alloc | apply Kd.R_drewN | apply Kd.R_drew)); exact HO114.out))) (below_size (by repeat (first | (with_reducible first | exact HB.out | apply below_alloc | apply pw_below_drewN | apply below_drew1) | exact HB.out)))); have n3_ := Aside0.mk (below_step (by repeat (first | (with_reducible first | exact HB.out | apply below_alloc | apply pw_below_drewN | apply below_drew1) | exact HB.out)) hb); clear HO111; clear HO114; clear HB; have HO111 := n0_; have HO114 := n1_; have HO117 := n2_; have HB := n3_; clear n0_ n1_ n2_ n3_; (try clear hb); (try clear hb2); (try clear hk); (try clear hi); (try clear ho0); obtain ⟨Ao26, co26, eo26⟩ := Kd.R_slice HO114.out; subst eo26; have p118 : 0 ≤ (1 : Int) := (by omega); have q118 : 1 < (t112.length : Int) := of_decide_eq_true (by first | (with_reducible assumption) | assumption); obtain ⟨ad118, e118, hx118_0, hx118_1⟩ := at_T32 (Kd.R_reads' HO114.out).2.2 1 p118 q118; cases e118; (try simp only [show (1 : Int).toNat = 1 from rfl, Nat.reduceMul, Nat.reduceEqDiff, Go.Addr.add, ↓reduceIte] at hx118_0); (try simp only [show (1 : Int).toNat = 1 from rfl, Nat.reduceMul, Nat.reduceEqDiff, Go.Addr.add, ↓reduceIte] at hx118_1); have qi118 : (1 < t112.length) = True := eq_true (by omega); (try rw [show ((1 : Int)).toNat = 1 from rfl] at hx118_0); (try rw [show 1 * 2 = 2 from rfl] at hx118_0); (try rw [show ((1 : Int)).toNat = 1 from rfl] at hx118_1); (try rw [show 1 * 2 = 2 from rfl] at hx118_1); replace p118 := eq_true p118; replace q118 := eq_true q118; have p119 : 0 ≤ (3 : Int) := (by omega); have q119 : 3 < (t112.length : Int) := of_decide_eq_true (by first | (with_reducible assumption) | assumption); obtain ⟨ad119, e119, hx119_0, hx119_1⟩ := at_T32 (Kd.R_reads' HO114.out).2.2 3 p119 q119; obtain rfl : ad118 = ad119 := (by injection e119); (try simp only [show (3 : Int).toNat = 3 from rfl, Nat.reduceMul, Nat.reduceEqDiff, Go.Addr.add, ↓reduceIte] at hx119_0); (try simp only [show (3 : Int).toNat = 3 from rfl, Nat.reduceMul, Nat.reduceEqDiff, Go.Addr.add, ↓reduceIte] at hx119_1); have qi119 : (3 < t112.length) = True := eq_true (by omega); (try rw [show ((3 : Int)).toNat = 3 from rfl] at hx119_0); (try rw [show 3 * 2 = 6 from rfl] at hx119_0); (try rw [show ((3 : Int)).toNat = 3 from rfl] at hx119_1); (try rw [show 3 * 2 = 6 from rfl] at hx119_1); replace p119 := eq_true p119; replace q119 := eq_true q119; obtain ⟨Ao27, co27, eo27⟩ := Kd.R_slice HO117.out; subst eo27; have p120 : 0 ≤ (1 : Int) := (by omega); have q120 : 1 < (t115.length : Int) := of_decide_eq_true (by first | (with_reducible assumption) | assumption); obtain ⟨ad120, e120, hx120_0, hx120_1⟩ := at_T32 (Kd.R_reads' HO117.out).2.2 1 p120 q120; cases e120; (try simp only [show (1 : Int).toNat = 1 from rfl, Nat.reduceMul, Nat.reduceEqDiff, Go.Addr.add, ↓reduceIte] at hx120_0); (try simp only [show (1 : Int).toNat = 1 from rfl, Nat.reduceMul, Nat.reduceEqDiff, Go.Addr.add, ↓reduceIte] at hx120_1); have qi120 : (1 < t115.length) = True := eq_true (by omega); (try rw [show ((1 : Int)).toNat = 1 from rfl] at hx120_0); (try rw [show 1 * 2 = 2 from rfl] at hx120_0); (try rw [show ((1 : Int)).toNat = 1 from rfl] at hx120_1); (try rw [show 1 * 2 = 2 from rfl] at hx120_1); replace p120 := eq_true p120; replace q120 := eq_true q120) | (go_at_call 13; (with_reducible refine (merge_Rises.calls k _ _ t112 true _ ?side1 ?side2 A11.out).mono ?_); (case side1 => repeat (first | exact (Kd.R_reads' HO114.out).2.2 | (with_reducible refine Kd.C_alloc ?_ _) | (with_reducible refine Kd.C_drewN ?_ _) | (with_reducible refine Kd.C_drew ?_))); (case side2 => exact (Kd.R_reads' HO114.out).2.1); rintro e w' ⟨rfl, ⟨nd, rfl⟩⟩) | ((with_reducible refine gate_dst (N := 51) rfl ?_); (try (refine gate_guard (by rfl) ?_; dsimp only)); refine Kd.R_lit k32 _ 32 ?hg (N := 51) ?hd (xs := ([(⟨0, 0⟩ : S32), (⟨0, 0⟩ : S32)] : List (S32))) (inner := [.int .u64 0, .int .u64 0, .int .u64 0, .int .u64 0]) (ok := fun _ => True) (okp := fun _ => True) ?hr ?hp (fun _ hk => hk) trivial (Below.refl _ _) (Nat.le_refl _) (by simp) ?_; (case hd => rfl); (case hg => rfl); (case hr => first | (go_simp; done) | (go_simp; rfl)); (case hp => exact (Reps.c2 (show Kd.M k32 _ _ _ (⟨0, 0⟩ : S32) [.int .u64 0, .int .u64 0] from (k32_mkM _ _ _ (⟨0, 0⟩ : S32) )) (Reps.c2 (show Kd.M k32 _ _ _ (⟨0, 0⟩ : S32) [.int .u64 0, .int .u64 0] from (k32_mkM _ _ _ (⟨0, 0⟩ : S32) )) (Reps.none _ _)))); intro v123 w28 ho29 hb hg_ hnew_; clear hg_ hnew_; (first | rw [← Ny122.out] at ho29 | (simp only [Int.reduceToNat] at ho29; rw [← Ny122.out] at ho29)); have n0_ := Aside0.mk (Kd.N_elder' (by (with_reducible repeat (first | apply Kd.N_alloc | apply Kd.N_drewN | apply Kd.N_drew)); exact HO111.out) (Kd.R_base ho29) hb); have n1_ := Aside0.mk (Kd.R_elder' (by (with_reducible repeat (first | apply Kd.R_alloc | apply Kd.R_drewN | apply Kd.R_drew)); exact HO114.out) (Kd.R_base ho29) hb); have n2_ := Aside0.mk (Kd.R_elder' (by (with_reducible repeat (first | apply Kd.R_alloc | apply Kd.R_drewN | apply Kd.R_drew)); exact HO117.out) (Kd.R_base ho29) hb); have n3_ := Aside0.mk (Kd.R_lower (Kd.R_new' (Kd.R_new' ho29 (Kd.R_lt (by (with_reducible repeat (first | apply Kd.R_alloc | apply Kd.R_drewN | apply Kd.R_drew)); exact HO114.out))) (Kd.R_lt (by (with_reducible repeat (first | apply Kd.R_alloc | apply Kd.R_drewN | apply Kd.R_drew)); exact HO117.out))) (below_size (by repeat (first | (with_reducible first | exact HB.out | apply below_alloc | apply pw_below_drewN | apply below_drew1) | exact HB.out)))); have n4_ := Aside0.mk (below_step (by repeat (first | (with_reducible first | exact HB.out | apply below_alloc | apply pw_below_drewN | apply below_drew1) | exact HB.out)) hb); clear HO111; clear HO114; clear HO117; clear HB; have HO111 := n0_; have HO114 := n1_; have HO117 := n2_; have HO124 := n3_; have HB := n4_; clear n0_ n1_ n2_ n3_ n4_; clear hb ho29; obtain ⟨Ao30, co30, eo30⟩ := Kd.R_slice HO124.out; subst eo30) | (go_at_call 13; (with_reducible refine (merge_Rises.calls k _ _ y122 true _ ?side1 ?side2 A13.out).mono ?_); (case side1 => repeat (first | exact (Kd.R_reads' HO124.out).2.2 | (with_reducible refine Kd.C_alloc ?_ _) | (with_reducible refine Kd.C_drewN ?_ _) | (with_reducible refine Kd.C_drew ?_))); (case side2 => exact (Kd.R_reads' HO124.out).2.1); rintro e w' ⟨rfl, ⟨nd, rfl⟩⟩))
                      go_ret
                      exact ⟨by first | rfl | (simp [errW_none, errW_some] <;> rfl) | (simp [*, errW_none, errW_some] <;> rfl), by repeat (first | (with_reducible first | exact HB.out | apply below_alloc | apply pw_below_drewN | apply below_drew1) | exact HB.out)⟩
                    · replace c14 := Bool.eq_false_iff.mpr c14
                      subst c14
                      have H1 : ((merge_Pairs.f y109 (-1)).bind fun t126 => (some ((t126.length : Int) == 0))) = some r := by rw [if_neg (show ¬ (false = true) by decide)] at H; exact H
                      clear H
                      have H := H1
                      clear H1
                      replace H := Option.bind_eq_some_iff.mp H
                      obtain ⟨t126, A310, H⟩ := H
                      replace H : (some ((t126.length : Int) == 0)) = some r := H
                      have A31 := Aside0.mk A310
                      clear A310
                      obtain rfl := Option.some.inj H
                      go_enter Try.func8, Try.ntmps8
                      go_wp2_with (first | ((with_reducible refine gate_dst (N := 6) rfl ?_); (try (refine gate_guard (by rfl) ?_; dsimp only)); refine Kd.R_lit k32 _ 32 ?hg (N := 6) ?hd (xs := ([(⟨1, 0⟩ : S32), (⟨4, 0⟩ : S32)] : List (S32))) (inner := [.int .u64 1, .int .u64 0, .int .u64 4, .int .u64 0]) (ok := fun _ => True) (okp := fun _ => True) ?hr ?hp (fun _ hk => hk) trivial (Below.refl _ _) (Nat.le_refl _) (by simp) ?_; (case hd => rfl); (case hg => rfl); (case hr => first | (go_simp; done) | (go_simp; rfl)); (case hp => exact (Reps.c2 (show Kd.M k32 _ _ _ (⟨1, 0⟩ : S32) [.int .u64 1, .int .u64 0] from (k32_mkM _ _ _ (⟨1, 0⟩ : S32) )) (Reps.c2 (show Kd.M k32 _ _ _ (⟨4, 0⟩ : S32) [.int .u64 4, .int .u64 0] from (k32_mkM _ _ _ (⟨4, 0⟩ : S32) )) (Reps.none _ _)))); intro v104 w32 ho33 hb hg_ hnew_; clear hg_ hnew_; (first | rw [← Ny103.out] at ho33 | (simp only [Int.reduceToNat] at ho33; rw [← Ny103.out] at ho33)); have n0_ := Aside0.mk (Kd.R_lower ho33 (below_size (by repeat (first | (with_reducible first | exact HB.out | apply below_alloc | apply pw_below_drewN | apply below_drew1) | exact HB.out)))); have n1_ := Aside0.mk (below_step (by repeat (first | (with_reducible first | exact HB.out | apply below_alloc | apply pw_below_drewN | apply below_drew1) | exact HB.out)) hb); clear HB; have HO105 := n0_; have HB := n1_; clear n0_ n1_; clear hb ho33) | ((with_reducible refine gate_dst (N := 9) rfl ?_); (try (refine gate_guard (by rfl) ?_; dsimp only)); refine Kd.R_lit k32 _ 32 ?hg (N := 9) ?hd (xs := ([(⟨2, 0⟩ : S32), (⟨3, 0⟩ : S32)] : List (S32))) (inner := [.int .u64 2, .int .u64 0, .int .u64 3, .int .u64 0]) (ok := fun _ => True) (okp := fun _ => True) ?hr ?hp (fun _ hk => hk) trivial (Below.refl _ _) (Nat.le_refl _) (by simp) ?_; (case hd => rfl); (case hg => rfl); (case hr => first | (go_simp; done) | (go_simp; rfl)); (case hp => exact (Reps.c2 (show Kd.M k32 _ _ _ (⟨2, 0⟩ : S32) [.int .u64 2, .int .u64 0] from (k32_mkM _ _ _ (⟨2, 0⟩ : S32) )) (Reps.c2 (show Kd.M k32 _ _ _ (⟨3, 0⟩ : S32) [.int .u64 3, .int .u64 0] from (k32_mkM _ _ _ (⟨3, 0⟩ : S32) )) (Reps.none _ _)))); intro v107 w34 ho35 hb hg_ hnew_; clear hg_ hnew_; (first | rw [← Ny106.out] at ho35 | (simp only [Int.reduceToNat] at ho35; rw [← Ny106.out] at ho35)); have n0_ := Aside0.mk (Kd.R_elder' (by (with_reducible repeat (first | apply Kd.R_alloc | apply Kd.R_drewN | apply Kd.R_drew)); exact HO105.out) (Kd.R_base ho35) hb); have n1_ := Aside0.mk (Kd.R_lower (Kd.R_new' ho35 (Kd.R_lt (by (with_reducible repeat (first | apply Kd.R_alloc | apply Kd.R_drewN | apply Kd.R_drew)); exact HO105.out))) (below_size (by repeat (first | (with_reducible first | exact HB.out | apply below_alloc | apply pw_below_drewN | apply below_drew1) | exact HB.out)))); have n2_ := Aside0.mk (below_step (by repeat (first | (with_reducible first | exact HB.out | apply below_alloc | apply pw_below_drewN | apply below_drew1) | exact HB.out)) hb); clear HO105; clear HB; have HO105 := n0_; have HO108 := n1_; have HB := n2_; clear n0_ n1_ n2_; clear hb ho35; obtain ⟨Ao36, co36, eo36⟩ := Kd.R_slice HO105.out; subst eo36; obtain ⟨Ao37, co37, eo37⟩ := Kd.R_slice HO108.out; subst eo37) | ((with_reducible refine gate_dst (N := 10) rfl ?_); (try (refine gate_guard (by rfl) ?_; dsimp only)); refine Kd.N_lit (Kd.slice 32 k32) _ 25 ?hg (N' := 10) ?hd (xs := ([y103, y106] : List (List (S32)))) (inner := [.slice Ao36 y103.length co36, .slice Ao37 y106.length co37]) (ok := (fun _ => True)) (okp := (fun _ => True)) ?hr ?hp (fun _ hk => hk) ((show ∀ k_, w34.heap.size ≤ k_ → (fun _ => True) k_ from fun k_ hk => trivial) _ (Nat.le_refl _)) (Below.refl _ _) (Nat.le_refl _) (by simp) ?_; (case hd => rfl); (case hg => rfl); (case hr => first | (go_simp; done) | (go_simp; rfl)); (case hp => exact (Reps.one (show Kd.FK (Kd.slice 32 k32) _ _ y103 [.slice Ao36 y103.length co36] from (Kd.FK_slice_mk (Kd.R_reads' (Kd.R_mono (ok' := (fun _ => True)) (HO105.out) (fun k_ hk => trivial))).2.1 (Kd.R_F (Kd.R_mono (ok' := (fun _ => True)) (HO105.out) (fun k_ hk => trivial))))) (Reps.one (show Kd.FK (Kd.slice 32 k32) _ _ y106 [.slice Ao37 y106.length co37] from (Kd.FK_slice_mk (Kd.R_reads' (Kd.R_mono (ok' := (fun _ => True)) (HO108.out) (fun k_ hk => trivial))).2.1 (Kd.R_F (Kd.R_mono (ok' := (fun _ => True)) (HO108.out) (fun k_ hk => trivial))))) (Reps.none _ _)))); intro v110 w38 ho39 hb hg_ hnew_; clear hg_ hnew_; (first | rw [← Ny109.out] at ho39 | (simp only [Int.reduceToNat] at ho39; rw [← Ny109.out] at ho39)); have n0_ := Aside0.mk (Kd.N_lower ho39 (below_size (by repeat (first | (with_reducible first | exact HB.out | apply below_alloc | apply pw_below_drewN | apply below_drew1) | exact HB.out)))); have n1_ := Aside0.mk (below_step (by repeat (first | (with_reducible first | exact HB.out | apply below_alloc | apply pw_below_drewN | apply below_drew1) | exact HB.out)) hb); clear HB; clear HO105; clear HO108; have HO111 := n0_; have HB := n1_; clear n0_ n1_; clear hb ho39; obtain ⟨Ao40, co40, eo40⟩ := Kd.N_slice HO111.out; subst eo40) | ((with_reducible refine gate_callee (f := 10) rfl ?_); refine goesL_ (some 12) rfl rfl Try.func10 (by kernel_rfl) rfl #[.slice Ao40 y109.length co40, .int .i64 9] rfl (by (try simp only [List.map_toArray, List.map_cons, List.map_nil]); first | done | rfl | (simp only [List.length_drop, List.length_take]; rfl)) ?_; (with_reducible refine (merge_Pairs.calls _ _ y109 9 t112 _ ?side1 ?side2 A1.out).mono ?_); (case side1 => repeat (first | exact (Kd.N_reads' HO111.out).2.2 | (with_reducible refine Kd.C_alloc ?_ _) | (with_reducible refine Kd.C_drewN ?_ _) | (with_reducible refine Kd.C_drew ?_))); (case side2 => exact (Kd.N_reads' HO111.out).2.1); rintro e w41 ⟨v113, rfl, ho0, hb⟩; refine ⟨_, rfl, ?_⟩; have n0_ := Aside0.mk (Kd.N_elder' (by (with_reducible repeat (first | apply Kd.N_alloc | apply Kd.N_drewN | apply Kd.N_drew)); exact HO111.out) (Kd.R_base ho0) hb); have n1_ := Aside0.mk (Kd.R_lower ho0 (below_size (by repeat (first | (with_reducible first | exact HB.out | apply below_alloc | apply pw_below_drewN | apply below_drew1) | exact HB.out)))); have n2_ := Aside0.mk (below_step (by repeat (first | (with_reducible first | exact HB.out | apply below_alloc | apply pw_below_drewN | apply below_drew1) | exact HB.out)) hb); clear HO111; clear HB; have HO111 := n0_; have HO114 := n1_; have HB := n2_; clear n0_ n1_ n2_; (try clear hb); (try clear hb2); (try clear hk); (try clear hi); (try clear ho0)) | ((with_reducible refine gate_callee (f := 10) rfl ?_); refine goesL_ (some 14) rfl rfl Try.func10 (by kernel_rfl) rfl #[.slice Ao40 y109.length co40, .int .i64 2] rfl (by (try simp only [List.map_toArray, List.map_cons, List.map_nil]); first | done | rfl | (simp only [List.length_drop, List.length_take]; rfl)) ?_; (with_reducible refine (merge_Pairs.calls _ _ y109 2 t115 _ ?side1 ?side2 A2.out).mono ?_); (case side1 => repeat (first | exact (Kd.N_reads' HO111.out).2.2 | (with_reducible refine Kd.C_alloc ?_ _) | (with_reducible refine Kd.C_drewN ?_ _) | (with_reducible refine Kd.C_drew ?_))); (case side2 => exact (Kd.N_reads' HO111.out).2.1); rintro e w42 ⟨v116, rfl, ho0, hb⟩; refine ⟨_, rfl, ?_⟩; have n0_ := Aside0.mk (Kd.N_elder' (by (with_reducible repeat (first | apply Kd.N_alloc | apply Kd.N_drewN | apply Kd.N_drew)); exact HO111.out) (Kd.R_base ho0) hb); have n1_ := Aside0.mk (Kd.R_elder' (by (with_reducible repeat (first | apply Kd.R_alloc | apply Kd.R_drewN | apply Kd.R_drew)); exact HO114.out) (Kd.R_base ho0) hb); have n2_ := Aside0.mk (Kd.R_lower (Kd.R_new' ho0 (Kd.R_lt (by (with_reducible repeat (first | apply Kd.R_alloc | apply Kd.R_drewN | apply Kd.R_drew)); exact HO114.out))) (below_size (by repeat (first | (with_reducible first | exact HB.out | apply below_alloc | apply pw_below_drewN | apply below_drew1) | exact HB.out)))); have n3_ := Aside0.mk (below_step (by repeat (first | (with_reducible first | exact HB.out | apply below_alloc | apply pw_below_drewN | apply below_drew1) | exact HB.out)) hb); clear HO111; clear HO114; clear HB; have HO111 := n0_; have HO114 := n1_; have HO117 := n2_; have HB := n3_; clear n0_ n1_ n2_ n3_; (try clear hb); (try clear hb2); (try clear hk); (try clear hi); (try clear ho0); obtain ⟨Ao43, co43, eo43⟩ := Kd.R_slice HO114.out; subst eo43; have p118 : 0 ≤ (1 : Int) := (by omega); have q118 : 1 < (t112.length : Int) := of_decide_eq_true (by first | (with_reducible assumption) | assumption); obtain ⟨ad118, e118, hx118_0, hx118_1⟩ := at_T32 (Kd.R_reads' HO114.out).2.2 1 p118 q118; cases e118; (try simp only [show (1 : Int).toNat = 1 from rfl, Nat.reduceMul, Nat.reduceEqDiff, Go.Addr.add, ↓reduceIte] at hx118_0); (try simp only [show (1 : Int).toNat = 1 from rfl, Nat.reduceMul, Nat.reduceEqDiff, Go.Addr.add, ↓reduceIte] at hx118_1); have qi118 : (1 < t112.length) = True := eq_true (by omega); (try rw [show ((1 : Int)).toNat = 1 from rfl] at hx118_0); (try rw [show 1 * 2 = 2 from rfl] at hx118_0); (try rw [show ((1 : Int)).toNat = 1 from rfl] at hx118_1); (try rw [show 1 * 2 = 2 from rfl] at hx118_1); replace p118 := eq_true p118; replace q118 := eq_true q118; have p119 : 0 ≤ (3 : Int) := (by omega); have q119 : 3 < (t112.length : Int) := of_decide_eq_true (by first | (with_reducible assumption) | assumption); obtain ⟨ad119, e119, hx119_0, hx119_1⟩ := at_T32 (Kd.R_reads' HO114.out).2.2 3 p119 q119; obtain rfl : ad118 = ad119 := (by injection e119); (try simp only [show (3 : Int).toNat = 3 from rfl, Nat.reduceMul, Nat.reduceEqDiff, Go.Addr.add, ↓reduceIte] at hx119_0); (try simp only [show (3 : Int).toNat = 3 from rfl, Nat.reduceMul, Nat.reduceEqDiff, Go.Addr.add, ↓reduceIte] at hx119_1); have qi119 : (3 < t112.length) = True := eq_true (by omega); (try rw [show ((3 : Int)).toNat = 3 from rfl] at hx119_0); (try rw [show 3 * 2 = 6 from rfl] at hx119_0); (try rw [show ((3 : Int)).toNat = 3 from rfl] at hx119_1); (try rw [show 3 * 2 = 6 from rfl] at hx119_1); replace p119 := eq_true p119; replace q119 := eq_true q119; obtain ⟨Ao44, co44, eo44⟩ := Kd.R_slice HO117.out; subst eo44; have p120 : 0 ≤ (1 : Int) := (by omega); have q120 : 1 < (t115.length : Int) := of_decide_eq_true (by first | (with_reducible assumption) | assumption); obtain ⟨ad120, e120, hx120_0, hx120_1⟩ := at_T32 (Kd.R_reads' HO117.out).2.2 1 p120 q120; cases e120; (try simp only [show (1 : Int).toNat = 1 from rfl, Nat.reduceMul, Nat.reduceEqDiff, Go.Addr.add, ↓reduceIte] at hx120_0); (try simp only [show (1 : Int).toNat = 1 from rfl, Nat.reduceMul, Nat.reduceEqDiff, Go.Addr.add, ↓reduceIte] at hx120_1); have qi120 : (1 < t115.length) = True := eq_true (by omega); (try rw [show ((1 : Int)).toNat = 1 from rfl] at hx120_0); (try rw [show 1 * 2 = 2 from rfl] at hx120_0); (try rw [show ((1 : Int)).toNat = 1 from rfl] at hx120_1); (try rw [show 1 * 2 = 2 from rfl] at hx120_1); replace p120 := eq_true p120; replace q120 := eq_true q120) | (go_at_call 13; (with_reducible refine (merge_Rises.calls k _ _ t112 true _ ?side1 ?side2 A11.out).mono ?_); (case side1 => repeat (first | exact (Kd.R_reads' HO114.out).2.2 | (with_reducible refine Kd.C_alloc ?_ _) | (with_reducible refine Kd.C_drewN ?_ _) | (with_reducible refine Kd.C_drew ?_))); (case side2 => exact (Kd.R_reads' HO114.out).2.1); rintro e w' ⟨rfl, ⟨nd, rfl⟩⟩) | ((with_reducible refine gate_dst (N := 51) rfl ?_); (try (refine gate_guard (by rfl) ?_; dsimp only)); refine Kd.R_lit k32 _ 32 ?hg (N := 51) ?hd (xs := ([(⟨0, 0⟩ : S32), (⟨0, 0⟩ : S32)] : List (S32))) (inner := [.int .u64 0, .int .u64 0, .int .u64 0, .int .u64 0]) (ok := fun _ => True) (okp := fun _ => True) ?hr ?hp (fun _ hk => hk) trivial (Below.refl _ _) (Nat.le_refl _) (by simp) ?_; (case hd => rfl); (case hg => rfl); (case hr => first | (go_simp; done) | (go_simp; rfl)); (case hp => exact (Reps.c2 (show Kd.M k32 _ _ _ (⟨0, 0⟩ : S32) [.int .u64 0, .int .u64 0] from (k32_mkM _ _ _ (⟨0, 0⟩ : S32) )) (Reps.c2 (show Kd.M k32 _ _ _ (⟨0, 0⟩ : S32) [.int .u64 0, .int .u64 0] from (k32_mkM _ _ _ (⟨0, 0⟩ : S32) )) (Reps.none _ _)))); intro v123 w45 ho46 hb hg_ hnew_; clear hg_ hnew_; (first | rw [← Ny122.out] at ho46 | (simp only [Int.reduceToNat] at ho46; rw [← Ny122.out] at ho46)); have n0_ := Aside0.mk (Kd.N_elder' (by (with_reducible repeat (first | apply Kd.N_alloc | apply Kd.N_drewN | apply Kd.N_drew)); exact HO111.out) (Kd.R_base ho46) hb); have n1_ := Aside0.mk (Kd.R_elder' (by (with_reducible repeat (first | apply Kd.R_alloc | apply Kd.R_drewN | apply Kd.R_drew)); exact HO114.out) (Kd.R_base ho46) hb); have n2_ := Aside0.mk (Kd.R_elder' (by (with_reducible repeat (first | apply Kd.R_alloc | apply Kd.R_drewN | apply Kd.R_drew)); exact HO117.out) (Kd.R_base ho46) hb); have n3_ := Aside0.mk (Kd.R_lower (Kd.R_new' (Kd.R_new' ho46 (Kd.R_lt (by (with_reducible repeat (first | apply Kd.R_alloc | apply Kd.R_drewN | apply Kd.R_drew)); exact HO114.out))) (Kd.R_lt (by (with_reducible repeat (first | apply Kd.R_alloc | apply Kd.R_drewN | apply Kd.R_drew)); exact HO117.out))) (below_size (by repeat (first | (with_reducible first | exact HB.out | apply below_alloc | apply pw_below_drewN | apply below_drew1) | exact HB.out)))); have n4_ := Aside0.mk (below_step (by repeat (first | (with_reducible first | exact HB.out | apply below_alloc | apply pw_below_drewN | apply below_drew1) | exact HB.out)) hb); clear HO111; clear HO114; clear HO117; clear HB; have HO111 := n0_; have HO114 := n1_; have HO117 := n2_; have HO124 := n3_; have HB := n4_; clear n0_ n1_ n2_ n3_ n4_; clear hb ho46; obtain ⟨Ao47, co47, eo47⟩ := Kd.R_slice HO124.out; subst eo47) | (go_at_call 13; (with_reducible refine (merge_Rises.calls k _ _ y122 false _ ?side1 ?side2 A13.out).mono ?_); (case side1 => repeat (first | exact (Kd.R_reads' HO124.out).2.2 | (with_reducible refine Kd.C_alloc ?_ _) | (with_reducible refine Kd.C_drewN ?_ _) | (with_reducible refine Kd.C_drew ?_))); (case side2 => exact (Kd.R_reads' HO124.out).2.1); rintro e w' ⟨rfl, ⟨nd, rfl⟩⟩) | (go_at_call 10; (with_reducible refine (merge_Pairs.calls _ _ y109 (-1) t126 _ ?side1 ?side2 A31.out).mono ?_); (case side1 => repeat (first | exact (Kd.N_reads' HO111.out).2.2 | (with_reducible refine Kd.C_alloc ?_ _) | (with_reducible refine Kd.C_drewN ?_ _) | (with_reducible refine Kd.C_drew ?_))); (case side2 => exact (Kd.N_reads' HO111.out).2.1); rintro e w48 ⟨v127, rfl, ho0, hb⟩; have n0_ := Aside0.mk (Kd.N_elder' (by (with_reducible repeat (first | apply Kd.N_alloc | apply Kd.N_drewN | apply Kd.N_drew)); exact HO111.out) (Kd.R_base ho0) hb); have n1_ := Aside0.mk (Kd.R_elder' (by (with_reducible repeat (first | apply Kd.R_alloc | apply Kd.R_drewN | apply Kd.R_drew)); exact HO114.out) (Kd.R_base ho0) hb); have n2_ := Aside0.mk (Kd.R_elder' (by (with_reducible repeat (first | apply Kd.R_alloc | apply Kd.R_drewN | apply Kd.R_drew)); exact HO117.out) (Kd.R_base ho0) hb); have n3_ := Aside0.mk (Kd.R_elder' (by (with_reducible repeat (first | apply Kd.R_alloc | apply Kd.R_drewN | apply Kd.R_drew)); exact HO124.out) (Kd.R_base ho0) hb); have n4_ := Aside0.mk (Kd.R_lower (Kd.R_new' (Kd.R_new' (Kd.R_new' ho0 (Kd.R_lt (by (with_reducible repeat (first | apply Kd.R_alloc | apply Kd.R_drewN | apply Kd.R_drew)); exact HO114.out))) (Kd.R_lt (by (with_reducible repeat (first | apply Kd.R_alloc | apply Kd.R_drewN | apply Kd.R_drew)); exact HO117.out))) (Kd.R_lt (by (with_reducible repeat (first | apply Kd.R_alloc | apply Kd.R_drewN | apply Kd.R_drew)); exact HO124.out))) (below_size (by repeat (first | (with_reducible first | exact HB.out | apply below_alloc | apply pw_below_drewN | apply below_drew1) | exact HB.out)))); have n5_ := Aside0.mk (below_step (by repeat (first | (with_reducible first | exact HB.out | apply below_alloc | apply pw_below_drewN | apply below_drew1) | exact HB.out)) hb); clear HO111; clear HO114; clear HO117; clear HO124; clear HB; have HO111 := n0_; have HO114 := n1_; have HO117 := n2_; have HO124 := n3_; have HO128 := n4_; have HB := n5_; clear n0_ n1_ n2_ n3_ n4_ n5_; (try clear hb); (try clear hb2); (try clear hk); (try clear hi); (try clear ho0); obtain ⟨Ao49, co49, eo49⟩ := Kd.R_slice HO128.out; subst eo49))
                      go_ret
                      exact ⟨by first | rfl | (simp [errW_none, errW_some] <;> rfl) | (simp [*, errW_none, errW_some] <;> rfl), by repeat (first | (with_reducible first | exact HB.out | apply below_alloc | apply pw_below_drewN | apply below_drew1) | exact HB.out)⟩
                  · replace c12 := Bool.eq_false_iff.mpr c12
                    subst c12
                    have H1 : (some false) = some r := by rw [if_neg (show ¬ (false = true) by decide)] at H; exact H
                    clear H
                    have H := H1
                    clear H1
                    obtain rfl := Option.some.inj H
                    go_enter Try.func8, Try.ntmps8
                    go_wp2_with (first | ((with_reducible refine gate_dst (N := 6) rfl ?_); (try (refine gate_guard (by rfl) ?_; dsimp only)); refine Kd.R_lit k32 _ 32 ?hg (N := 6) ?hd (xs := ([(⟨1, 0⟩ : S32), (⟨4, 0⟩ : S32)] : List (S32))) (inner := [.int .u64 1, .int .u64 0, .int .u64 4, .int .u64 0]) (ok := fun _ => True) (okp := fun _ => True) ?hr ?hp (fun _ hk => hk) trivial (Below.refl _ _) (Nat.le_refl _) (by simp) ?_; (case hd => rfl); (case hg => rfl); (case hr => first | (go_simp; done) | (go_simp; rfl)); (case hp => exact (Reps.c2 (show Kd.M k32 _ _ _ (⟨1, 0⟩ : S32) [.int .u64 1, .int .u64 0] from (k32_mkM _ _ _ (⟨1, 0⟩ : S32) )) (Reps.c2 (show Kd.M k32 _ _ _ (⟨4, 0⟩ : S32) [.int .u64 4, .int .u64 0] from (k32_mkM _ _ _ (⟨4, 0⟩ : S32) )) (Reps.none _ _)))); intro v104 w50 ho51 hb hg_ hnew_; clear hg_ hnew_; (first | rw [← Ny103.out] at ho51 | (simp only [Int.reduceToNat] at ho51; rw [← Ny103.out] at ho51)); have n0_ := Aside0.mk (Kd.R_lower ho51 (below_size (by repeat (first | (with_reducible first | exact HB.out | apply below_alloc | apply pw_below_drewN | apply below_drew1) | exact HB.out)))); have n1_ := Aside0.mk (below_step (by repeat (first | (with_reducible first | exact HB.out | apply below_alloc | apply pw_below_drewN | apply below_drew1) | exact HB.out)) hb); clear HB; have HO105 := n0_; have HB := n1_; clear n0_ n1_; clear hb ho51) | ((with_reducible refine gate_dst (N := 9) rfl ?_); (try (refine gate_guard (by rfl) ?_; dsimp only)); refine Kd.R_lit k32 _ 32 ?hg (N := 9) ?hd (xs := ([(⟨2, 0⟩ : S32), (⟨3, 0⟩ : S32)] : List (S32))) (inner := [.int .u64 2, .int .u64 0, .int .u64 3, .int .u64 0]) (ok := fun _ => True) (okp := fun _ => True) ?hr ?hp (fun _ hk => hk) trivial (Below.refl _ _) (Nat.le_refl _) (by simp) ?_; (case hd => rfl); (case hg => rfl); (case hr => first | (go_simp; done) | (go_simp; rfl)); (case hp => exact (Reps.c2 (show Kd.M k32 _ _ _ (⟨2, 0⟩ : S32) [.int .u64 2, .int .u64 0] from (k32_mkM _ _ _ (⟨2, 0⟩ : S32) )) (Reps.c2 (show Kd.M k32 _ _ _ (⟨3, 0⟩ : S32) [.int .u64 3, .int .u64 0] from (k32_mkM _ _ _ (⟨3, 0⟩ : S32) )) (Reps.none _ _)))); intro v107 w52 ho53 hb hg_ hnew_; clear hg_ hnew_; (first | rw [← Ny106.out] at ho53 | (simp only [Int.reduceToNat] at ho53; rw [← Ny106.out] at ho53)); have n0_ := Aside0.mk (Kd.R_elder' (by (with_reducible repeat (first | apply Kd.R_alloc | apply Kd.R_drewN | apply Kd.R_drew)); exact HO105.out) (Kd.R_base ho53) hb); have n1_ := Aside0.mk (Kd.R_lower (Kd.R_new' ho53 (Kd.R_lt (by (with_reducible repeat (first | apply Kd.R_alloc | apply Kd.R_drewN | apply Kd.R_drew)); exact HO105.out))) (below_size (by repeat (first | (with_reducible first | exact HB.out | apply below_alloc | apply pw_below_drewN | apply below_drew1) | exact HB.out)))); have n2_ := Aside0.mk (below_step (by repeat (first | (with_reducible first | exact HB.out | apply below_alloc | apply pw_below_drewN | apply below_drew1) | exact HB.out)) hb); clear HO105; clear HB; have HO105 := n0_; have HO108 := n1_; have HB := n2_; clear n0_ n1_ n2_; clear hb ho53; obtain ⟨Ao54, co54, eo54⟩ := Kd.R_slice HO105.out; subst eo54; obtain ⟨Ao55, co55, eo55⟩ := Kd.R_slice HO108.out; subst eo55) | ((with_reducible refine gate_dst (N := 10) rfl ?_); (try (refine gate_guard (by rfl) ?_; dsimp only)); refine Kd.N_lit (Kd.slice 32 k32) _ 25 ?hg (N' := 10) ?hd (xs := ([y103, y106] : List (List (S32)))) (inner := [.slice Ao54 y103.length co54, .slice Ao55 y106.length co55]) (ok := (fun _ => True)) (okp := (fun _ => True)) ?hr ?hp (fun _ hk => hk) ((show ∀ k_, w52.heap.size ≤ k_ → (fun _ => True) k_ from fun k_ hk => trivial) _ (Nat.le_refl _)) (Below.refl _ _) (Nat.le_refl _) (by simp) ?_; (case hd => rfl); (case hg => rfl); (case hr => first | (go_simp; done) | (go_simp; rfl)); (case hp => exact (Reps.one (show Kd.FK (Kd.slice 32 k32) _ _ y103 [.slice Ao54 y103.length co54] from (Kd.FK_slice_mk (Kd.R_reads' (Kd.R_mono (ok' := (fun _ => True)) (HO105.out) (fun k_ hk => trivial))).2.1 (Kd.R_F (Kd.R_mono (ok' := (fun _ => True)) (HO105.out) (fun k_ hk => trivial))))) (Reps.one (show Kd.FK (Kd.slice 32 k32) _ _ y106 [.slice Ao55 y106.length co55] from (Kd.FK_slice_mk (Kd.R_reads' (Kd.R_mono (ok' := (fun _ => True)) (HO108.out) (fun k_ hk => trivial))).2.1 (Kd.R_F (Kd.R_mono (ok' := (fun _ => True)) (HO108.out) (fun k_ hk => trivial))))) (Reps.none _ _)))); intro v110 w56 ho57 hb hg_ hnew_; clear hg_ hnew_; (first | rw [← Ny109.out] at ho57 | (simp only [Int.reduceToNat] at ho57; rw [← Ny109.out] at ho57)); have n0_ := Aside0.mk (Kd.N_lower ho57 (below_size (by repeat (first | (with_reducible first | exact HB.out | apply below_alloc | apply pw_below_drewN | apply below_drew1) | exact HB.out)))); have n1_ := Aside0.mk (below_step (by repeat (first | (with_reducible first | exact HB.out | apply below_alloc | apply pw_below_drewN | apply below_drew1) | exact HB.out)) hb); clear HB; clear HO105; clear HO108; have HO111 := n0_; have HB := n1_; clear n0_ n1_; clear hb ho57; obtain ⟨Ao58, co58, eo58⟩ := Kd.N_slice HO111.out; subst eo58) | ((with_reducible refine gate_callee (f := 10) rfl ?_); refine goesL_ (some 12) rfl rfl Try.func10 (by kernel_rfl) rfl #[.slice Ao58 y109.length co58, .int .i64 9] rfl (by (try simp only [List.map_toArray, List.map_cons, List.map_nil]); first | done | rfl | (simp only [List.length_drop, List.length_take]; rfl)) ?_; (with_reducible refine (merge_Pairs.calls _ _ y109 9 t112 _ ?side1 ?side2 A1.out).mono ?_); (case side1 => repeat (first | exact (Kd.N_reads' HO111.out).2.2 | (with_reducible refine Kd.C_alloc ?_ _) | (with_reducible refine Kd.C_drewN ?_ _) | (with_reducible refine Kd.C_drew ?_))); (case side2 => exact (Kd.N_reads' HO111.out).2.1); rintro e w59 ⟨v113, rfl, ho0, hb⟩; refine ⟨_, rfl, ?_⟩; have n0_ := Aside0.mk (Kd.N_elder' (by (with_reducible repeat (first | apply Kd.N_alloc | apply Kd.N_drewN | apply Kd.N_drew)); exact HO111.out) (Kd.R_base ho0) hb); have n1_ := Aside0.mk (Kd.R_lower ho0 (below_size (by repeat (first | (with_reducible first | exact HB.out | apply below_alloc | apply pw_below_drewN | apply below_drew1) | exact HB.out)))); have n2_ := Aside0.mk (below_step (by repeat (first | (with_reducible first | exact HB.out | apply below_alloc | apply pw_below_drewN | apply below_drew1) | exact HB.out)) hb); clear HO111; clear HB; have HO111 := n0_; have HO114 := n1_; have HB := n2_; clear n0_ n1_ n2_; (try clear hb); (try clear hb2); (try clear hk); (try clear hi); (try clear ho0)) | ((with_reducible refine gate_callee (f := 10) rfl ?_); refine goesL_ (some 14) rfl rfl Try.func10 (by kernel_rfl) rfl #[.slice Ao58 y109.length co58, .int .i64 2] rfl (by (try simp only [List.map_toArray, List.map_cons, List.map_nil]); first | done | rfl | (simp only [List.length_drop, List.length_take]; rfl)) ?_; (with_reducible refine (merge_Pairs.calls _ _ y109 2 t115 _ ?side1 ?side2 A2.out).mono ?_); (case side1 => repeat (first | exact (Kd.N_reads' HO111.out).2.2 | (with_reducible refine Kd.C_alloc ?_ _) | (with_reducible refine Kd.C_drewN ?_ _) | (with_reducible refine Kd.C_drew ?_))); (case side2 => exact (Kd.N_reads' HO111.out).2.1); rintro e w60 ⟨v116, rfl, ho0, hb⟩; refine ⟨_, rfl, ?_⟩; have n0_ := Aside0.mk (Kd.N_elder' (by (with_reducible repeat (first | apply Kd.N_alloc | apply Kd.N_drewN | apply Kd.N_drew)); exact HO111.out) (Kd.R_base ho0) hb); have n1_ := Aside0.mk (Kd.R_elder' (by (with_reducible repeat (first | apply Kd.R_alloc | apply Kd.R_drewN | apply Kd.R_drew)); exact HO114.out) (Kd.R_base ho0) hb); have n2_ := Aside0.mk (Kd.R_lower (Kd.R_new' ho0 (Kd.R_lt (by (with_reducible repeat (first | apply Kd.R_alloc | apply Kd.R_drewN | apply Kd.R_drew)); exact HO114.out))) (below_size (by repeat (first | (with_reducible first | exact HB.out | apply below_alloc | apply pw_below_drewN | apply below_drew1) | exact HB.out)))); have n3_ := Aside0.mk (below_step (by repeat (first | (with_reducible first | exact HB.out | apply below_alloc | apply pw_below_drewN | apply below_drew1) | exact HB.out)) hb); clear HO111; clear HO114; clear HB; have HO111 := n0_; have HO114 := n1_; have HO117 := n2_; have HB := n3_; clear n0_ n1_ n2_ n3_; (try clear hb); (try clear hb2); (try clear hk); (try clear hi); (try clear ho0); obtain ⟨Ao61, co61, eo61⟩ := Kd.R_slice HO114.out; subst eo61; have p118 : 0 ≤ (1 : Int) := (by omega); have q118 : 1 < (t112.length : Int) := of_decide_eq_true (by first | (with_reducible assumption) | assumption); obtain ⟨ad118, e118, hx118_0, hx118_1⟩ := at_T32 (Kd.R_reads' HO114.out).2.2 1 p118 q118; cases e118; (try simp only [show (1 : Int).toNat = 1 from rfl, Nat.reduceMul, Nat.reduceEqDiff, Go.Addr.add, ↓reduceIte] at hx118_0); (try simp only [show (1 : Int).toNat = 1 from rfl, Nat.reduceMul, Nat.reduceEqDiff, Go.Addr.add, ↓reduceIte] at hx118_1); have qi118 : (1 < t112.length) = True := eq_true (by omega); (try rw [show ((1 : Int)).toNat = 1 from rfl] at hx118_0); (try rw [show 1 * 2 = 2 from rfl] at hx118_0); (try rw [show ((1 : Int)).toNat = 1 from rfl] at hx118_1); (try rw [show 1 * 2 = 2 from rfl] at hx118_1); replace p118 := eq_true p118; replace q118 := eq_true q118; have p119 : 0 ≤ (3 : Int) := (by omega); have q119 : 3 < (t112.length : Int) := of_decide_eq_true (by first | (with_reducible assumption) | assumption); obtain ⟨ad119, e119, hx119_0, hx119_1⟩ := at_T32 (Kd.R_reads' HO114.out).2.2 3 p119 q119; obtain rfl : ad118 = ad119 := (by injection e119); (try simp only [show (3 : Int).toNat = 3 from rfl, Nat.reduceMul, Nat.reduceEqDiff, Go.Addr.add, ↓reduceIte] at hx119_0); (try simp only [show (3 : Int).toNat = 3 from rfl, Nat.reduceMul, Nat.reduceEqDiff, Go.Addr.add, ↓reduceIte] at hx119_1); have qi119 : (3 < t112.length) = True := eq_true (by omega); (try rw [show ((3 : Int)).toNat = 3 from rfl] at hx119_0); (try rw [show 3 * 2 = 6 from rfl] at hx119_0); (try rw [show ((3 : Int)).toNat = 3 from rfl] at hx119_1); (try rw [show 3 * 2 = 6 from rfl] at hx119_1); replace p119 := eq_true p119; replace q119 := eq_true q119; obtain ⟨Ao62, co62, eo62⟩ := Kd.R_slice HO117.out; subst eo62; have p120 : 0 ≤ (1 : Int) := (by omega); have q120 : 1 < (t115.length : Int) := of_decide_eq_true (by first | (with_reducible assumption) | assumption); obtain ⟨ad120, e120, hx120_0, hx120_1⟩ := at_T32 (Kd.R_reads' HO117.out).2.2 1 p120 q120; cases e120; (try simp only [show (1 : Int).toNat = 1 from rfl, Nat.reduceMul, Nat.reduceEqDiff, Go.Addr.add, ↓reduceIte] at hx120_0); (try simp only [show (1 : Int).toNat = 1 from rfl, Nat.reduceMul, Nat.reduceEqDiff, Go.Addr.add, ↓reduceIte] at hx120_1); have qi120 : (1 < t115.length) = True := eq_true (by omega); (try rw [show ((1 : Int)).toNat = 1 from rfl] at hx120_0); (try rw [show 1 * 2 = 2 from rfl] at hx120_0); (try rw [show ((1 : Int)).toNat = 1 from rfl] at hx120_1); (try rw [show 1 * 2 = 2 from rfl] at hx120_1); replace p120 := eq_true p120; replace q120 := eq_true q120) | (go_at_call 13; (with_reducible refine (merge_Rises.calls k _ _ t112 false _ ?side1 ?side2 A11.out).mono ?_); (case side1 => repeat (first | exact (Kd.R_reads' HO114.out).2.2 | (with_reducible refine Kd.C_alloc ?_ _) | (with_reducible refine Kd.C_drewN ?_ _) | (with_reducible refine Kd.C_drew ?_))); (case side2 => exact (Kd.R_reads' HO114.out).2.1); rintro e w' ⟨rfl, ⟨nd, rfl⟩⟩))
                    go_ret
                    exact ⟨by first | rfl | (simp [errW_none, errW_some] <;> rfl) | (simp [*, errW_none, errW_some] <;> rfl), by repeat (first | (with_reducible first | exact HB.out | apply below_alloc | apply pw_below_drewN | apply below_drew1) | exact HB.out)⟩
                · rw [if_neg c10] at H
                  have c10b0 : (((rd_T32 t115 1).f0) == 2) = false := beq_eq_false_iff_ne.mpr c10
                  have c10b1 : (((rd_T32 t115 1).f0) != 2) = true := bne_iff_ne.mpr c10
                  obtain rfl := Option.some.inj H
                  go_enter Try.func8, Try.ntmps8
                  go_wp2_with (first | ((with_reducible refine gate_dst (N := 6) rfl ?_); (try (refine gate_guard (by rfl) ?_; dsimp only)); refine Kd.R_lit k32 _ 32 ?hg (N := 6) ?hd (xs := ([(⟨1, 0⟩ : S32), (⟨4, 0⟩ : S32)] : List (S32))) (inner := [.int .u64 1, .int .u64 0, .int .u64 4, .int .u64 0]) (ok := fun _ => True) (okp := fun _ => True) ?hr ?hp (fun _ hk => hk) trivial (Below.refl _ _) (Nat.le_refl _) (by simp) ?_; (case hd => rfl); (case hg => rfl); (case hr => first | (go_simp; done) | (go_simp; rfl)); (case hp => exact (Reps.c2 (show Kd.M k32 _ _ _ (⟨1, 0⟩ : S32) [.int .u64 1, .int .u64 0] from (k32_mkM _ _ _ (⟨1, 0⟩ : S32) )) (Reps.c2 (show Kd.M k32 _ _ _ (⟨4, 0⟩ : S32) [.int .u64 4, .int .u64 0] from (k32_mkM _ _ _ (⟨4, 0⟩ : S32) )) (Reps.none _ _)))); intro v104 w63 ho64 hb hg_ hnew_; clear hg_ hnew_; (first | rw [← Ny103.out] at ho64 | (simp only [Int.reduceToNat] at ho64; rw [← Ny103.out] at ho64)); have n0_ := Aside0.mk (Kd.R_lower ho64 (below_size (by repeat (first | (with_reducible first | exact HB.out | apply below_alloc | apply pw_below_drewN | apply below_drew1) | exact HB.out)))); have n1_ := Aside0.mk (below_step (by repeat (first | (with_reducible first | exact HB.out | apply below_alloc | apply pw_below_drewN | apply below_drew1) | exact HB.out)) hb); clear HB; have HO105 := n0_; have HB := n1_; clear n0_ n1_; clear hb ho64) | ((with_reducible refine gate_dst (N := 9) rfl ?_); (try (refine gate_guard (by rfl) ?_; dsimp only)); refine Kd.R_lit k32 _ 32 ?hg (N := 9) ?hd (xs := ([(⟨2, 0⟩ : S32), (⟨3, 0⟩ : S32)] : List (S32))) (inner := [.int .u64 2, .int .u64 0, .int .u64 3, .int .u64 0]) (ok := fun _ => True) (okp := fun _ => True) ?hr ?hp (fun _ hk => hk) trivial (Below.refl _ _) (Nat.le_refl _) (by simp) ?_; (case hd => rfl); (case hg => rfl); (case hr => first | (go_simp; done) | (go_simp; rfl)); (case hp => exact (Reps.c2 (show Kd.M k32 _ _ _ (⟨2, 0⟩ : S32) [.int .u64 2, .int .u64 0] from (k32_mkM _ _ _ (⟨2, 0⟩ : S32) )) (Reps.c2 (show Kd.M k32 _ _ _ (⟨3, 0⟩ : S32) [.int .u64 3, .int .u64 0] from (k32_mkM _ _ _ (⟨3, 0⟩ : S32) )) (Reps.none _ _)))); intro v107 w65 ho66 hb hg_ hnew_; clear hg_ hnew_; (first | rw [← Ny106.out] at ho66 | (simp only [Int.reduceToNat] at ho66; rw [← Ny106.out] at ho66)); have n0_ := Aside0.mk (Kd.R_elder' (by (with_reducible repeat (first | apply Kd.R_alloc | apply Kd.R_drewN | apply Kd.R_drew)); exact HO105.out) (Kd.R_base ho66) hb); have n1_ := Aside0.mk (Kd.R_lower (Kd.R_new' ho66 (Kd.R_lt (by (with_reducible repeat (first | apply Kd.R_alloc | apply Kd.R_drewN | apply Kd.R_drew)); exact HO105.out))) (below_size (by repeat (first | (with_reducible first | exact HB.out | apply below_alloc | apply pw_below_drewN | apply below_drew1) | exact HB.out)))); have n2_ := Aside0.mk (below_step (by repeat (first | (with_reducible first | exact HB.out | apply below_alloc | apply pw_below_drewN | apply below_drew1) | exact HB.out)) hb); clear HO105; clear HB; have HO105 := n0_; have HO108 := n1_; have HB := n2_; clear n0_ n1_ n2_; clear hb ho66; obtain ⟨Ao67, co67, eo67⟩ := Kd.R_slice HO105.out; subst eo67; obtain ⟨Ao68, co68, eo68⟩ := Kd.R_slice HO108.out; subst eo68) | ((with_reducible refine gate_dst (N := 10) rfl ?_); (try (refine gate_guard (by rfl) ?_; dsimp only)); refine Kd.N_lit (Kd.slice 32 k32) _ 25 ?hg (N' := 10) ?hd (xs := ([y103, y106] : List (List (S32)))) (inner := [.slice Ao67 y103.length co67, .slice Ao68 y106.length co68]) (ok := (fun _ => True)) (okp := (fun _ => True)) ?hr ?hp (fun _ hk => hk) ((show ∀ k_, w65.heap.size ≤ k_ → (fun _ => True) k_ from fun k_ hk => trivial) _ (Nat.le_refl _)) (Below.refl _ _) (Nat.le_refl _) (by simp) ?_; (case hd => rfl); (case hg => rfl); (case hr => first | (go_simp; done) | (go_simp; rfl)); (case hp => exact (Reps.one (show Kd.FK (Kd.slice 32 k32) _ _ y103 [.slice Ao67 y103.length co67] from (Kd.FK_slice_mk (Kd.R_reads' (Kd.R_mono (ok' := (fun _ => True)) (HO105.out) (fun k_ hk => trivial))).2.1 (Kd.R_F (Kd.R_mono (ok' := (fun _ => True)) (HO105.out) (fun k_ hk => trivial))))) (Reps.one (show Kd.FK (Kd.slice 32 k32) _ _ y106 [.slice Ao68 y106.length co68] from (Kd.FK_slice_mk (Kd.R_reads' (Kd.R_mono (ok' := (fun _ => True)) (HO108.out) (fun k_ hk => trivial))).2.1 (Kd.R_F (Kd.R_mono (ok' := (fun _ => True)) (HO108.out) (fun k_ hk => trivial))))) (Reps.none _ _)))); intro v110 w69 ho70 hb hg_ hnew_; clear hg_ hnew_; (first | rw [← Ny109.out] at ho70 | (simp only [Int.reduceToNat] at ho70; rw [← Ny109.out] at ho70)); have n0_ := Aside0.mk (Kd.N_lower ho70 (below_size (by repeat (first | (with_reducible first | exact HB.out | apply below_alloc | apply pw_below_drewN | apply below_drew1) | exact HB.out)))); have n1_ := Aside0.mk (below_step (by repeat (first | (with_reducible first | exact HB.out | apply below_alloc | apply pw_below_drewN | apply below_drew1) | exact HB.out)) hb); clear HB; clear HO105; clear HO108; have HO111 := n0_; have HB := n1_; clear n0_ n1_; clear hb ho70; obtain ⟨Ao71, co71, eo71⟩ := Kd.N_slice HO111.out; subst eo71) | ((with_reducible refine gate_callee (f := 10) rfl ?_); refine goesL_ (some 12) rfl rfl Try.func10 (by kernel_rfl) rfl #[.slice Ao71 y109.length co71, .int .i64 9] rfl (by (try simp only [List.map_toArray, List.map_cons, List.map_nil]); first | done | rfl | (simp only [List.length_drop, List.length_take]; rfl)) ?_; (with_reducible refine (merge_Pairs.calls _ _ y109 9 t112 _ ?side1 ?side2 A1.out).mono ?_); (case side1 => repeat (first | exact (Kd.N_reads' HO111.out).2.2 | (with_reducible refine Kd.C_alloc ?_ _) | (with_reducible refine Kd.C_drewN ?_ _) | (with_reducible refine Kd.C_drew ?_))); (case side2 => exact (Kd.N_reads' HO111.out).2.1); rintro e w72 ⟨v113, rfl, ho0, hb⟩; refine ⟨_, rfl, ?_⟩; have n0_ := Aside0.mk (Kd.N_elder' (by (with_reducible repeat (first | apply Kd.N_alloc | apply Kd.N_drewN | apply Kd.N_drew)); exact HO111.out) (Kd.R_base ho0) hb); have n1_ := Aside0.mk (Kd.R_lower ho0 (below_size (by repeat (first | (with_reducible first | exact HB.out | apply below_alloc | apply pw_below_drewN | apply below_drew1) | exact HB.out)))); have n2_ := Aside0.mk (below_step (by repeat (first | (with_reducible first | exact HB.out | apply below_alloc | apply pw_below_drewN | apply below_drew1) | exact HB.out)) hb); clear HO111; clear HB; have HO111 := n0_; have HO114 := n1_; have HB := n2_; clear n0_ n1_ n2_; (try clear hb); (try clear hb2); (try clear hk); (try clear hi); (try clear ho0)) | ((with_reducible refine gate_callee (f := 10) rfl ?_); refine goesL_ (some 14) rfl rfl Try.func10 (by kernel_rfl) rfl #[.slice Ao71 y109.length co71, .int .i64 2] rfl (by (try simp only [List.map_toArray, List.map_cons, List.map_nil]); first | done | rfl | (simp only [List.length_drop, List.length_take]; rfl)) ?_; (with_reducible refine (merge_Pairs.calls _ _ y109 2 t115 _ ?side1 ?side2 A2.out).mono ?_); (case side1 => repeat (first | exact (Kd.N_reads' HO111.out).2.2 | (with_reducible refine Kd.C_alloc ?_ _) | (with_reducible refine Kd.C_drewN ?_ _) | (with_reducible refine Kd.C_drew ?_))); (case side2 => exact (Kd.N_reads' HO111.out).2.1); rintro e w73 ⟨v116, rfl, ho0, hb⟩; refine ⟨_, rfl, ?_⟩; have n0_ := Aside0.mk (Kd.N_elder' (by (with_reducible repeat (first | apply Kd.N_alloc | apply Kd.N_drewN | apply Kd.N_drew)); exact HO111.out) (Kd.R_base ho0) hb); have n1_ := Aside0.mk (Kd.R_elder' (by (with_reducible repeat (first | apply Kd.R_alloc | apply Kd.R_drewN | apply Kd.R_drew)); exact HO114.out) (Kd.R_base ho0) hb); have n2_ := Aside0.mk (Kd.R_lower (Kd.R_new' ho0 (Kd.R_lt (by (with_reducible repeat (first | apply Kd.R_alloc | apply Kd.R_drewN | apply Kd.R_drew)); exact HO114.out))) (below_size (by repeat (first | (with_reducible first | exact HB.out | apply below_alloc | apply pw_below_drewN | apply below_drew1) | exact HB.out)))); have n3_ := Aside0.mk (below_step (by repeat (first | (with_reducible first | exact HB.out | apply below_alloc | apply pw_below_drewN | apply below_drew1) | exact HB.out)) hb); clear HO111; clear HO114; clear HB; have HO111 := n0_; have HO114 := n1_; have HO117 := n2_; have HB := n3_; clear n0_ n1_ n2_ n3_; (try clear hb); (try clear hb2); (try clear hk); (try clear hi); (try clear ho0); obtain ⟨Ao74, co74, eo74⟩ := Kd.R_slice HO114.out; subst eo74; have p118 : 0 ≤ (1 : Int) := (by omega); have q118 : 1 < (t112.length : Int) := of_decide_eq_true (by first | (with_reducible assumption) | assumption); obtain ⟨ad118, e118, hx118_0, hx118_1⟩ := at_T32 (Kd.R_reads' HO114.out).2.2 1 p118 q118; cases e118; (try simp only [show (1 : Int).toNat = 1 from rfl, Nat.reduceMul, Nat.reduceEqDiff, Go.Addr.add, ↓reduceIte] at hx118_0); (try simp only [show (1 : Int).toNat = 1 from rfl, Nat.reduceMul, Nat.reduceEqDiff, Go.Addr.add, ↓reduceIte] at hx118_1); have qi118 : (1 < t112.length) = True := eq_true (by omega); (try rw [show ((1 : Int)).toNat = 1 from rfl] at hx118_0); (try rw [show 1 * 2 = 2 from rfl] at hx118_0); (try rw [show ((1 : Int)).toNat = 1 from rfl] at hx118_1); (try rw [show 1 * 2 = 2 from rfl] at hx118_1); replace p118 := eq_true p118; replace q118 := eq_true q118; have p119 : 0 ≤ (3 : Int) := (by omega); have q119 : 3 < (t112.length : Int) := of_decide_eq_true (by first | (with_reducible assumption) | assumption); obtain ⟨ad119, e119, hx119_0, hx119_1⟩ := at_T32 (Kd.R_reads' HO114.out).2.2 3 p119 q119; obtain rfl : ad118 = ad119 := (by injection e119); (try simp only [show (3 : Int).toNat = 3 from rfl, Nat.reduceMul, Nat.reduceEqDiff, Go.Addr.add, ↓reduceIte] at hx119_0); (try simp only [show (3 : Int).toNat = 3 from rfl, Nat.reduceMul, Nat.reduceEqDiff, Go.Addr.add, ↓reduceIte] at hx119_1); have qi119 : (3 < t112.length) = True := eq_true (by omega); (try rw [show ((3 : Int)).toNat = 3 from rfl] at hx119_0); (try rw [show 3 * 2 = 6 from rfl] at hx119_0); (try rw [show ((3 : Int)).toNat = 3 from rfl] at hx119_1); (try rw [show 3 * 2 = 6 from rfl] at hx119_1); replace p119 := eq_true p119; replace q119 := eq_true q119; obtain ⟨Ao75, co75, eo75⟩ := Kd.R_slice HO117.out; subst eo75; have p120 : 0 ≤ (1 : Int) := (by omega); have q120 : 1 < (t115.length : Int) := of_decide_eq_true (by first | (with_reducible assumption) | assumption); obtain ⟨ad120, e120, hx120_0, hx120_1⟩ := at_T32 (Kd.R_reads' HO117.out).2.2 1 p120 q120; cases e120; (try simp only [show (1 : Int).toNat = 1 from rfl, Nat.reduceMul, Nat.reduceEqDiff, Go.Addr.add, ↓reduceIte] at hx120_0); (try simp only [show (1 : Int).toNat = 1 from rfl, Nat.reduceMul, Nat.reduceEqDiff, Go.Addr.add, ↓reduceIte] at hx120_1); have qi120 : (1 < t115.length) = True := eq_true (by omega); (try rw [show ((1 : Int)).toNat = 1 from rfl] at hx120_0); (try rw [show 1 * 2 = 2 from rfl] at hx120_0); (try rw [show ((1 : Int)).toNat = 1 from rfl] at hx120_1); (try rw [show 1 * 2 = 2 from rfl] at hx120_1); replace p120 := eq_true p120; replace q120 := eq_true q120))
                  go_ret
                  exact ⟨by first | rfl | (simp [errW_none, errW_some] <;> rfl) | (simp [*, errW_none, errW_some] <;> rfl), by repeat (first | (with_reducible first | exact HB.out | apply below_alloc | apply pw_below_drewN | apply below_drew1) | exact HB.out)⟩
              · rw [if_neg c9] at H
                exact absurd H (by simp)
            · rw [if_neg c8] at H
              have c8b0 : ((t115.length : Int) == 2) = false := beq_eq_false_iff_ne.mpr c8
              have c8b1 : ((t115.length : Int) != 2) = true := bne_iff_ne.mpr c8
              obtain rfl := Option.some.inj H
              go_enter Try.func8, Try.ntmps8
              go_wp2_with (first | ((with_reducible refine gate_dst (N := 6) rfl ?_); (try (refine gate_guard (by rfl) ?_; dsimp only)); refine Kd.R_lit k32 _ 32 ?hg (N := 6) ?hd (xs := ([(⟨1, 0⟩ : S32), (⟨4, 0⟩ : S32)] : List (S32))) (inner := [.int .u64 1, .int .u64 0, .int .u64 4, .int .u64 0]) (ok := fun _ => True) (okp := fun _ => True) ?hr ?hp (fun _ hk => hk) trivial (Below.refl _ _) (Nat.le_refl _) (by simp) ?_; (case hd => rfl); (case hg => rfl); (case hr => first | (go_simp; done) | (go_simp; rfl)); (case hp => exact (Reps.c2 (show Kd.M k32 _ _ _ (⟨1, 0⟩ : S32) [.int .u64 1, .int .u64 0] from (k32_mkM _ _ _ (⟨1, 0⟩ : S32) )) (Reps.c2 (show Kd.M k32 _ _ _ (⟨4, 0⟩ : S32) [.int .u64 4, .int .u64 0] from (k32_mkM _ _ _ (⟨4, 0⟩ : S32) )) (Reps.none _ _)))); intro v104 w76 ho77 hb hg_ hnew_; clear hg_ hnew_; (first | rw [← Ny103.out] at ho77 | (simp only [Int.reduceToNat] at ho77; rw [← Ny103.out] at ho77)); have n0_ := Aside0.mk (Kd.R_lower ho77 (below_size (by repeat (first | (with_reducible first | exact HB.out | apply below_alloc | apply pw_below_drewN | apply below_drew1) | exact HB.out)))); have n1_ := Aside0.mk (below_step (by repeat (first | (with_reducible first | exact HB.out | apply below_alloc | apply pw_below_drewN | apply below_drew1) | exact HB.out)) hb); clear HB; have HO105 := n0_; have HB := n1_; clear n0_ n1_; clear hb ho77) | ((with_reducible refine gate_dst (N := 9) rfl ?_); (try (refine gate_guard (by rfl) ?_; dsimp only)); refine Kd.R_lit k32 _ 32 ?hg (N := 9) ?hd (xs := ([(⟨2, 0⟩ : S32), (⟨3, 0⟩ : S32)] : List (S32))) (inner := [.int .u64 2, .int .u64 0, .int .u64 3, .int .u64 0]) (ok := fun _ => True) (okp := fun _ => True) ?hr ?hp (fun _ hk => hk) trivial (Below.refl _ _) (Nat.le_refl _) (by simp) ?_; (case hd => rfl); (case hg => rfl); (case hr => first | (go_simp; done) | (go_simp; rfl)); (case hp => exact (Reps.c2 (show Kd.M k32 _ _ _ (⟨2, 0⟩ : S32) [.int .u64 2, .int .u64 0] from (k32_mkM _ _ _ (⟨2, 0⟩ : S32) )) (Reps.c2 (show Kd.M k32 _ _ _ (⟨3, 0⟩ : S32) [.int .u64 3, .int .u64 0] from (k32_mkM _ _ _ (⟨3, 0⟩ : S32) )) (Reps.none _ _)))); intro v107 w78 ho79 hb hg_ hnew_; clear hg_ hnew_; (first | rw [← Ny106.out] at ho79 | (simp only [Int.reduceToNat] at ho79; rw [← Ny106.out] at ho79)); have n0_ := Aside0.mk (Kd.R_elder' (by (with_reducible repeat (first | apply Kd.R_alloc | apply Kd.R_drewN | apply Kd.R_drew)); exact HO105.out) (Kd.R_base ho79) hb); have n1_ := Aside0.mk (Kd.R_lower (Kd.R_new' ho79 (Kd.R_lt (by (with_reducible repeat (first | apply Kd.R_alloc | apply Kd.R_drewN | apply Kd.R_drew)); exact HO105.out))) (below_size (by repeat (first | (with_reducible first | exact HB.out | apply below_alloc | apply pw_below_drewN | apply below_drew1) | exact HB.out)))); have n2_ := Aside0.mk (below_step (by repeat (first | (with_reducible first | exact HB.out | apply below_alloc | apply pw_below_drewN | apply below_drew1) | exact HB.out)) hb); clear HO105; clear HB; have HO105 := n0_; have HO108 := n1_; have HB := n2_; clear n0_ n1_ n2_; clear hb ho79; obtain ⟨Ao80, co80, eo80⟩ := Kd.R_slice HO105.out; subst eo80; obtain ⟨Ao81, co81, eo81⟩ := Kd.R_slice HO108.out; subst eo81) | ((with_reducible refine gate_dst (N := 10) rfl ?_); (try (refine gate_guard (by rfl) ?_; dsimp only)); refine Kd.N_lit (Kd.slice 32 k32) _ 25 ?hg (N' := 10) ?hd (xs := ([y103, y106] : List (List (S32)))) (inner := [.slice Ao80 y103.length co80, .slice Ao81 y106.length co81]) (ok := (fun _ => True)) (okp := (fun _ => True)) ?hr ?hp (fun _ hk => hk) ((show ∀ k_, w78.heap.size ≤ k_ → (fun _ => True) k_ from fun k_ hk => trivial) _ (Nat.le_refl _)) (Below.refl _ _) (Nat.le_refl _) (by simp) ?_; (case hd => rfl); (case hg => rfl); (case hr => first | (go_simp; done) | (go_simp; rfl)); (case hp => exact (Reps.one (show Kd.FK (Kd.slice 32 k32) _ _ y103 [.slice Ao80 y103.length co80] from (Kd.FK_slice_mk (Kd.R_reads' (Kd.R_mono (ok' := (fun _ => True)) (HO105.out) (fun k_ hk => trivial))).2.1 (Kd.R_F (Kd.R_mono (ok' := (fun _ => True)) (HO105.out) (fun k_ hk => trivial))))) (Reps.one (show Kd.FK (Kd.slice 32 k32) _ _ y106 [.slice Ao81 y106.length co81] from (Kd.FK_slice_mk (Kd.R_reads' (Kd.R_mono (ok' := (fun _ => True)) (HO108.out) (fun k_ hk => trivial))).2.1 (Kd.R_F (Kd.R_mono (ok' := (fun _ => True)) (HO108.out) (fun k_ hk => trivial))))) (Reps.none _ _)))); intro v110 w82 ho83 hb hg_ hnew_; clear hg_ hnew_; (first | rw [← Ny109.out] at ho83 | (simp only [Int.reduceToNat] at ho83; rw [← Ny109.out] at ho83)); have n0_ := Aside0.mk (Kd.N_lower ho83 (below_size (by repeat (first | (with_reducible first | exact HB.out | apply below_alloc | apply pw_below_drewN | apply below_drew1) | exact HB.out)))); have n1_ := Aside0.mk (below_step (by repeat (first | (with_reducible first | exact HB.out | apply below_alloc | apply pw_below_drewN | apply below_drew1) | exact HB.out)) hb); clear HB; clear HO105; clear HO108; have HO111 := n0_; have HB := n1_; clear n0_ n1_; clear hb ho83; obtain ⟨Ao84, co84, eo84⟩ := Kd.N_slice HO111.out; subst eo84) | ((with_reducible refine gate_callee (f := 10) rfl ?_); refine goesL_ (some 12) rfl rfl Try.func10 (by kernel_rfl) rfl #[.slice Ao84 y109.length co84, .int .i64 9] rfl (by (try simp only [List.map_toArray, List.map_cons, List.map_nil]); first | done | rfl | (simp only [List.length_drop, List.length_take]; rfl)) ?_; (with_reducible refine (merge_Pairs.calls _ _ y109 9 t112 _ ?side1 ?side2 A1.out).mono ?_); (case side1 => repeat (first | exact (Kd.N_reads' HO111.out).2.2 | (with_reducible refine Kd.C_alloc ?_ _) | (with_reducible refine Kd.C_drewN ?_ _) | (with_reducible refine Kd.C_drew ?_))); (case side2 => exact (Kd.N_reads' HO111.out).2.1); rintro e w85 ⟨v113, rfl, ho0, hb⟩; refine ⟨_, rfl, ?_⟩; have n0_ := Aside0.mk (Kd.N_elder' (by (with_reducible repeat (first | apply Kd.N_alloc | apply Kd.N_drewN | apply Kd.N_drew)); exact HO111.out) (Kd.R_base ho0) hb); have n1_ := Aside0.mk (Kd.R_lower ho0 (below_size (by repeat (first | (with_reducible first | exact HB.out | apply below_alloc | apply pw_below_drewN | apply below_drew1) | exact HB.out)))); have n2_ := Aside0.mk (below_step (by repeat (first | (with_reducible first | exact HB.out | apply below_alloc | apply pw_below_drewN | apply below_drew1) | exact HB.out)) hb); clear HO111; clear HB; have HO111 := n0_; have HO114 := n1_; have HB := n2_; clear n0_ n1_ n2_; (try clear hb); (try clear hb2); (try clear hk); (try clear hi); (try clear ho0)) | ((with_reducible refine gate_callee (f := 10) rfl ?_); refine goesL_ (some 14) rfl rfl Try.func10 (by kernel_rfl) rfl #[.slice Ao84 y109.length co84, .int .i64 2] rfl (by (try simp only [List.map_toArray, List.map_cons, List.map_nil]); first | done | rfl | (simp only [List.length_drop, List.length_take]; rfl)) ?_; (with_reducible refine (merge_Pairs.calls _ _ y109 2 t115 _ ?side1 ?side2 A2.out).mono ?_); (case side1 => repeat (first | exact (Kd.N_reads' HO111.out).2.2 | (with_reducible refine Kd.C_alloc ?_ _) | (with_reducible refine Kd.C_drewN ?_ _) | (with_reducible refine Kd.C_drew ?_))); (case side2 => exact (Kd.N_reads' HO111.out).2.1); rintro e w86 ⟨v116, rfl, ho0, hb⟩; refine ⟨_, rfl, ?_⟩; have n0_ := Aside0.mk (Kd.N_elder' (by (with_reducible repeat (first | apply Kd.N_alloc | apply Kd.N_drewN | apply Kd.N_drew)); exact HO111.out) (Kd.R_base ho0) hb); have n1_ := Aside0.mk (Kd.R_elder' (by (with_reducible repeat (first | apply Kd.R_alloc | apply Kd.R_drewN | apply Kd.R_drew)); exact HO114.out) (Kd.R_base ho0) hb); have n2_ := Aside0.mk (Kd.R_lower (Kd.R_new' ho0 (Kd.R_lt (by (with_reducible repeat (first | apply Kd.R_alloc | apply Kd.R_drewN | apply Kd.R_drew)); exact HO114.out))) (below_size (by repeat (first | (with_reducible first | exact HB.out | apply below_alloc | apply pw_below_drewN | apply below_drew1) | exact HB.out)))); have n3_ := Aside0.mk (below_step (by repeat (first | (with_reducible first | exact HB.out | apply below_alloc | apply pw_below_drewN | apply below_drew1) | exact HB.out)) hb); clear HO111; clear HO114; clear HB; have HO111 := n0_; have HO114 := n1_; have HO117 := n2_; have HB := n3_; clear n0_ n1_ n2_ n3_; (try clear hb); (try clear hb2); (try clear hk); (try clear hi); (try clear ho0); obtain ⟨Ao87, co87, eo87⟩ := Kd.R_slice HO114.out; subst eo87; have p118 : 0 ≤ (1 : Int) := (by omega); have q118 : 1 < (t112.length : Int) := of_decide_eq_true (by first | (with_reducible assumption) | assumption); obtain ⟨ad118, e118, hx118_0, hx118_1⟩ := at_T32 (Kd.R_reads' HO114.out).2.2 1 p118 q118; cases e118; (try simp only [show (1 : Int).toNat = 1 from rfl, Nat.reduceMul, Nat.reduceEqDiff, Go.Addr.add, ↓reduceIte] at hx118_0); (try simp only [show (1 : Int).toNat = 1 from rfl, Nat.reduceMul, Nat.reduceEqDiff, Go.Addr.add, ↓reduceIte] at hx118_1); have qi118 : (1 < t112.length) = True := eq_true (by omega); (try rw [show ((1 : Int)).toNat = 1 from rfl] at hx118_0); (try rw [show 1 * 2 = 2 from rfl] at hx118_0); (try rw [show ((1 : Int)).toNat = 1 from rfl] at hx118_1); (try rw [show 1 * 2 = 2 from rfl] at hx118_1); replace p118 := eq_true p118; replace q118 := eq_true q118; have p119 : 0 ≤ (3 : Int) := (by omega); have q119 : 3 < (t112.length : Int) := of_decide_eq_true (by first | (with_reducible assumption) | assumption); obtain ⟨ad119, e119, hx119_0, hx119_1⟩ := at_T32 (Kd.R_reads' HO114.out).2.2 3 p119 q119; obtain rfl : ad118 = ad119 := (by injection e119); (try simp only [show (3 : Int).toNat = 3 from rfl, Nat.reduceMul, Nat.reduceEqDiff, Go.Addr.add, ↓reduceIte] at hx119_0); (try simp only [show (3 : Int).toNat = 3 from rfl, Nat.reduceMul, Nat.reduceEqDiff, Go.Addr.add, ↓reduceIte] at hx119_1); have qi119 : (3 < t112.length) = True := eq_true (by omega); (try rw [show ((3 : Int)).toNat = 3 from rfl] at hx119_0); (try rw [show 3 * 2 = 6 from rfl] at hx119_0); (try rw [show ((3 : Int)).toNat = 3 from rfl] at hx119_1); (try rw [show 3 * 2 = 6 from rfl] at hx119_1); replace p119 := eq_true p119; replace q119 := eq_true q119; obtain ⟨Ao88, co88, eo88⟩ := Kd.R_slice HO117.out; subst eo88))
              go_ret
              exact ⟨by first | rfl | (simp [errW_none, errW_some] <;> rfl) | (simp [*, errW_none, errW_some] <;> rfl), by repeat (first | (with_reducible first | exact HB.out | apply below_alloc | apply pw_below_drewN | apply below_drew1) | exact HB.out)⟩
          · rw [if_neg c7] at H
            have c7b0 : (((rd_T32 t112 3).f0) == 4) = false := beq_eq_false_iff_ne.mpr c7
            have c7b1 : (((rd_T32 t112 3).f0) != 4) = true := bne_iff_ne.mpr c7
            obtain rfl := Option.some.inj H
            go_enter Try.func8, Try.ntmps8
            go_wp2_with (first | ((with_reducible refine gate_dst (N := 6) rfl ?_); (try (refine gate_guard (by rfl) ?_; dsimp only)); refine Kd.R_lit k32 _ 32 ?hg (N := 6) ?hd (xs := ([(⟨1, 0⟩ : S32), (⟨4, 0⟩ : S32)] : List (S32))) (inner := [.int .u64 1, .int .u64 0, .int .u64 4, .int .u64 0]) (ok := fun _ => True) (okp := fun _ => True) ?hr ?hp (fun _ hk => hk) trivial (Below.refl _ _) (Nat.le_refl _) (by simp) ?_; (case hd => rfl); (case hg => rfl); (case hr => first | (go_simp; done) | (go_simp; rfl)); (case hp => exact (Reps.c2 (show Kd.M k32 _ _ _ (⟨1, 0⟩ : S32) [.int .u64 1, .int .u64 0] from (k32_mkM _ _ _ (⟨1, 0⟩ : S32) )) (Reps.c2 (show Kd.M k32 _ _ _ (⟨4, 0⟩ : S32) [.int .u64 4, .int .u64 0] from (k32_mkM _ _ _ (⟨4, 0⟩ : S32) )) (Reps.none _ _)))); intro v104 w89 ho90 hb hg_ hnew_; clear hg_ hnew_; (first | rw [← Ny103.out] at ho90 | (simp only [Int.reduceToNat] at ho90; rw [← Ny103.out] at ho90)); have n0_ := Aside0.mk (Kd.R_lower ho90 (below_size (by repeat (first | (with_reducible first | exact HB.out | apply below_alloc | apply pw_below_drewN | apply below_drew1) | exact HB.out)))); have n1_ := Aside0.mk (below_step (by repeat (first | (with_reducible first | exact HB.out | apply below_alloc | apply pw_below_drewN | apply below_drew1) | exact HB.out)) hb); clear HB; have HO105 := n0_; have HB := n1_; clear n0_ n1_; clear hb ho90) | ((with_reducible refine gate_dst (N := 9) rfl ?_); (try (refine gate_guard (by rfl) ?_; dsimp only)); refine Kd.R_lit k32 _ 32 ?hg (N := 9) ?hd (xs := ([(⟨2, 0⟩ : S32), (⟨3, 0⟩ : S32)] : List (S32))) (inner := [.int .u64 2, .int .u64 0, .int .u64 3, .int .u64 0]) (ok := fun _ => True) (okp := fun _ => True) ?hr ?hp (fun _ hk => hk) trivial (Below.refl _ _) (Nat.le_refl _) (by simp) ?_; (case hd => rfl); (case hg => rfl); (case hr => first | (go_simp; done) | (go_simp; rfl)); (case hp => exact (Reps.c2 (show Kd.M k32 _ _ _ (⟨2, 0⟩ : S32) [.int .u64 2, .int .u64 0] from (k32_mkM _ _ _ (⟨2, 0⟩ : S32) )) (Reps.c2 (show Kd.M k32 _ _ _ (⟨3, 0⟩ : S32) [.int .u64 3, .int .u64 0] from (k32_mkM _ _ _ (⟨3, 0⟩ : S32) )) (Reps.none _ _)))); intro v107 w91 ho92 hb hg_ hnew_; clear hg_ hnew_; (first | rw [← Ny106.out] at ho92 | (simp only [Int.reduceToNat] at ho92; rw [← Ny106.out] at ho92)); have n0_ := Aside0.mk (Kd.R_elder' (by (with_reducible repeat (first | apply Kd.R_alloc | apply Kd.R_drewN | apply Kd.R_drew)); exact HO105.out) (Kd.R_base ho92) hb); have n1_ := Aside0.mk (Kd.R_lower (Kd.R_new' ho92 (Kd.R_lt (by (with_reducible repeat (first | apply Kd.R_alloc | apply Kd.R_drewN | apply Kd.R_drew)); exact HO105.out))) (below_size (by repeat (first | (with_reducible first | exact HB.out | apply below_alloc | apply pw_below_drewN | apply below_drew1) | exact HB.out)))); have n2_ := Aside0.mk (below_step (by repeat (first | (with_reducible first | exact HB.out | apply below_alloc | apply pw_below_drewN | apply below_drew1) | exact HB.out)) hb); clear HO105; clear HB; have HO105 := n0_; have HO108 := n1_; have HB := n2_; clear n0_ n1_ n2_; clear hb ho92; obtain ⟨Ao93, co93, eo93⟩ := Kd.R_slice HO105.out; subst eo93; obtain ⟨Ao94, co94, eo94⟩ := Kd.R_slice HO108.out; subst eo94) | ((with_reducible refine gate_dst (N := 10) rfl ?_); (try (refine gate_guard (by rfl) ?_; dsimp only)); refine Kd.N_lit (Kd.slice 32 k32) _ 25 ?hg (N' := 10) ?hd (xs := ([y103, y106] : List (List (S32)))) (inner := [.slice Ao93 y103.length co93, .slice Ao94 y106.length co94]) (ok := (fun _ => True)) (okp := (fun _ => True)) ?hr ?hp (fun _ hk => hk) ((show ∀ k_, w91.heap.size ≤ k_ → (fun _ => True) k_ from fun k_ hk => trivial) _ (Nat.le_refl _)) (Below.refl _ _) (Nat.le_refl _) (by simp) ?_; (case hd => rfl); (case hg => rfl); (case hr => first | (go_simp; done) | (go_simp; rfl)); (case hp => exact (Reps.one (show Kd.FK (Kd.slice 32 k32) _ _ y103 [.slice Ao93 y103.length co93] from (Kd.FK_slice_mk (Kd.R_reads' (Kd.R_mono (ok' := (fun _ => True)) (HO105.out) (fun k_ hk => trivial))).2.1 (Kd.R_F (Kd.R_mono (ok' := (fun _ => True)) (HO105.out) (fun k_ hk => trivial))))) (Reps.one (show Kd.FK (Kd.slice 32 k32) _ _ y106 [.slice Ao94 y106.length co94] from (Kd.FK_slice_mk (Kd.R_reads' (Kd.R_mono (ok' := (fun _ => True)) (HO108.out) (fun k_ hk => trivial))).2.1 (Kd.R_F (Kd.R_mono (ok' := (fun _ => True)) (HO108.out) (fun k_ hk => trivial))))) (Reps.none _ _)))); intro v110 w95 ho96 hb hg_ hnew_; clear hg_ hnew_; (first | rw [← Ny109.out] at ho96 | (simp only [Int.reduceToNat] at ho96; rw [← Ny109.out] at ho96)); have n0_ := Aside0.mk (Kd.N_lower ho96 (below_size (by repeat (first | (with_reducible first | exact HB.out | apply below_alloc | apply pw_below_drewN | apply below_drew1) | exact HB.out)))); have n1_ := Aside0.mk (below_step (by repeat (first | (with_reducible first | exact HB.out | apply below_alloc | apply pw_below_drewN | apply below_drew1) | exact HB.out)) hb); clear HB; clear HO105; clear HO108; have HO111 := n0_; have HB := n1_; clear n0_ n1_; clear hb ho96; obtain ⟨Ao97, co97, eo97⟩ := Kd.N_slice HO111.out; subst eo97) | ((with_reducible refine gate_callee (f := 10) rfl ?_); refine goesL_ (some 12) rfl rfl Try.func10 (by kernel_rfl) rfl #[.slice Ao97 y109.length co97, .int .i64 9] rfl (by (try simp only [List.map_toArray, List.map_cons, List.map_nil]); first | done | rfl | (simp only [List.length_drop, List.length_take]; rfl)) ?_; (with_reducible refine (merge_Pairs.calls _ _ y109 9 t112 _ ?side1 ?side2 A1.out).mono ?_); (case side1 => repeat (first | exact (Kd.N_reads' HO111.out).2.2 | (with_reducible refine Kd.C_alloc ?_ _) | (with_reducible refine Kd.C_drewN ?_ _) | (with_reducible refine Kd.C_drew ?_))); (case side2 => exact (Kd.N_reads' HO111.out).2.1); rintro e w98 ⟨v113, rfl, ho0, hb⟩; refine ⟨_, rfl, ?_⟩; have n0_ := Aside0.mk (Kd.N_elder' (by (with_reducible repeat (first | apply Kd.N_alloc | apply Kd.N_drewN | apply Kd.N_drew)); exact HO111.out) (Kd.R_base ho0) hb); have n1_ := Aside0.mk (Kd.R_lower ho0 (below_size (by repeat (first | (with_reducible first | exact HB.out | apply below_alloc | apply pw_below_drewN | apply below_drew1) | exact HB.out)))); have n2_ := Aside0.mk (below_step (by repeat (first | (with_reducible first | exact HB.out | apply below_alloc | apply pw_below_drewN | apply below_drew1) | exact HB.out)) hb); clear HO111; clear HB; have HO111 := n0_; have HO114 := n1_; have HB := n2_; clear n0_ n1_ n2_; (try clear hb); (try clear hb2); (try clear hk); (try clear hi); (try clear ho0)) | ((with_reducible refine gate_callee (f := 10) rfl ?_); refine goesL_ (some 14) rfl rfl Try.func10 (by kernel_rfl) rfl #[.slice Ao97 y109.length co97, .int .i64 2] rfl (by (try simp only [List.map_toArray, List.map_cons, List.map_nil]); first | done | rfl | (simp only [List.length_drop, List.length_take]; rfl)) ?_; (with_reducible refine (merge_Pairs.calls _ _ y109 2 t115 _ ?side1 ?side2 A2.out).mono ?_); (case side1 => repeat (first | exact (Kd.N_reads' HO111.out).2.2 | (with_reducible refine Kd.C_alloc ?_ _) | (with_reducible refine Kd.C_drewN ?_ _) | (with_reducible refine Kd.C_drew ?_))); (case side2 => exact (Kd.N_reads' HO111.out).2.1); rintro e w99 ⟨v116, rfl, ho0, hb⟩; refine ⟨_, rfl, ?_⟩; have n0_ := Aside0.mk (Kd.N_elder' (by (with_reducible repeat (first | apply Kd.N_alloc | apply Kd.N_drewN | apply Kd.N_drew)); exact HO111.out) (Kd.R_base ho0) hb); have n1_ := Aside0.mk (Kd.R_elder' (by (with_reducible repeat (first | apply Kd.R_alloc | apply Kd.R_drewN | apply Kd.R_drew)); exact HO114.out) (Kd.R_base ho0) hb); have n2_ := Aside0.mk (Kd.R_lower (Kd.R_new' ho0 (Kd.R_lt (by (with_reducible repeat (first | apply Kd.R_alloc | apply Kd.R_drewN | apply Kd.R_drew)); exact HO114.out))) (below_size (by repeat (first | (with_reducible first | exact HB.out | apply below_alloc | apply pw_below_drewN | apply below_drew1) | exact HB.out)))); have n3_ := Aside0.mk (below_step (by repeat (first | (with_reducible first | exact HB.out | apply below_alloc | apply pw_below_drewN | apply below_drew1) | exact HB.out)) hb); clear HO111; clear HO114; clear HB; have HO111 := n0_; have HO114 := n1_; have HO117 := n2_; have HB := n3_; clear n0_ n1_ n2_ n3_; (try clear hb); (try clear hb2); (try clear hk); (try clear hi); (try clear ho0); obtain ⟨Ao100, co100, eo100⟩ := Kd.R_slice HO114.out; subst eo100; have p118 : 0 ≤ (1 : Int) := (by omega); have q118 : 1 < (t112.length : Int) := of_decide_eq_true (by first | (with_reducible assumption) | assumption); obtain ⟨ad118, e118, hx118_0, hx118_1⟩ := at_T32 (Kd.R_reads' HO114.out).2.2 1 p118 q118; cases e118; (try simp only [show (1 : Int).toNat = 1 from rfl, Nat.reduceMul, Nat.reduceEqDiff, Go.Addr.add, ↓reduceIte] at hx118_0); (try simp only [show (1 : Int).toNat = 1 from rfl, Nat.reduceMul, Nat.reduceEqDiff, Go.Addr.add, ↓reduceIte] at hx118_1); have qi118 : (1 < t112.length) = True := eq_true (by omega); (try rw [show ((1 : Int)).toNat = 1 from rfl] at hx118_0); (try rw [show 1 * 2 = 2 from rfl] at hx118_0); (try rw [show ((1 : Int)).toNat = 1 from rfl] at hx118_1); (try rw [show 1 * 2 = 2 from rfl] at hx118_1); replace p118 := eq_true p118; replace q118 := eq_true q118; have p119 : 0 ≤ (3 : Int) := (by omega); have q119 : 3 < (t112.length : Int) := of_decide_eq_true (by first | (with_reducible assumption) | assumption); obtain ⟨ad119, e119, hx119_0, hx119_1⟩ := at_T32 (Kd.R_reads' HO114.out).2.2 3 p119 q119; obtain rfl : ad118 = ad119 := (by injection e119); (try simp only [show (3 : Int).toNat = 3 from rfl, Nat.reduceMul, Nat.reduceEqDiff, Go.Addr.add, ↓reduceIte] at hx119_0); (try simp only [show (3 : Int).toNat = 3 from rfl, Nat.reduceMul, Nat.reduceEqDiff, Go.Addr.add, ↓reduceIte] at hx119_1); have qi119 : (3 < t112.length) = True := eq_true (by omega); (try rw [show ((3 : Int)).toNat = 3 from rfl] at hx119_0); (try rw [show 3 * 2 = 6 from rfl] at hx119_0); (try rw [show ((3 : Int)).toNat = 3 from rfl] at hx119_1); (try rw [show 3 * 2 = 6 from rfl] at hx119_1); replace p119 := eq_true p119; replace q119 := eq_true q119))
            go_ret
            exact ⟨by first | rfl | (simp [errW_none, errW_some] <;> rfl) | (simp [*, errW_none, errW_some] <;> rfl), by repeat (first | (with_reducible first | exact HB.out | apply below_alloc | apply pw_below_drewN | apply below_drew1) | exact HB.out)⟩
        · rw [if_neg c6] at H
          exact absurd H (by simp)
      · rw [if_neg c5] at H
        have c5b0 : (((rd_T32 t112 1).f0) == 2) = false := beq_eq_false_iff_ne.mpr c5
        have c5b1 : (((rd_T32 t112 1).f0) != 2) = true := bne_iff_ne.mpr c5
        obtain rfl := Option.some.inj H
        go_enter Try.func8, Try.ntmps8
        go_wp2_with (first | ((with_reducible refine gate_dst (N := 6) rfl ?_); (try (refine gate_guard (by rfl) ?_; dsimp only)); refine Kd.R_lit k32 _ 32 ?hg (N := 6) ?hd (xs := ([(⟨1, 0⟩ : S32), (⟨4, 0⟩ : S32)] : List (S32))) (inner := [.int .u64 1, .int .u64 0, .int .u64 4, .int .u64 0]) (ok := fun _ => True) (okp := fun _ => True) ?hr ?hp (fun _ hk => hk) trivial (Below.refl _ _) (Nat.le_refl _) (by simp) ?_; (case hd => rfl); (case hg => rfl); (case hr => first | (go_simp; done) | (go_simp; rfl)); (case hp => exact (Reps.c2 (show Kd.M k32 _ _ _ (⟨1, 0⟩ : S32) [.int .u64 1, .int .u64 0] from (k32_mkM _ _ _ (⟨1, 0⟩ : S32) )) (Reps.c2 (show Kd.M k32 _ _ _ (⟨4, 0⟩ : S32) [.int .u64 4, .int .u64 0] from (k32_mkM _ _ _ (⟨4, 0⟩ : S32) )) (Reps.none _ _)))); intro v104 w101 ho102 hb hg_ hnew_; clear hg_ hnew_; (first | rw [← Ny103.out] at ho102 | (simp only [Int.reduceToNat] at ho102; rw [← Ny103.out] at ho102)); have n0_ := Aside0.mk (Kd.R_lower ho102 (below_size (by repeat (first | (with_reducible first | exact HB.out | apply below_alloc | apply pw_below_drewN | apply below_drew1) | exact HB.out)))); have n1_ := Aside0.mk (below_step (by repeat (first | (with_reducible first | exact HB.out | apply below_alloc | apply pw_below_drewN | apply below_drew1) | exact HB.out)) hb); clear HB; have HO105 := n0_; have HB := n1_; clear n0_ n1_; clear hb ho102) | ((with_reducible refine gate_dst (N := 9) rfl ?_); (try (refine gate_guard (by rfl) ?_; dsimp only)); refine Kd.R_lit k32 _ 32 ?hg (N := 9) ?hd (xs := ([(⟨2, 0⟩ : S32), (⟨3, 0⟩ : S32)] : List (S32))) (inner := [.int .u64 2, .int .u64 0, .int .u64 3, .int .u64 0]) (ok := fun _ => True) (okp := fun _ => True) ?hr ?hp (fun _ hk => hk) trivial (Below.refl _ _) (Nat.le_refl _) (by simp) ?_; (case hd => rfl); (case hg => rfl); (case hr => first | (go_simp; done) | (go_simp; rfl)); (case hp => exact (Reps.c2 (show Kd.M k32 _ _ _ (⟨2, 0⟩ : S32) [.int .u64 2, .int .u64 0] from (k32_mkM _ _ _ (⟨2, 0⟩ : S32) )) (Reps.c2 (show Kd.M k32 _ _ _ (⟨3, 0⟩ : S32) [.int .u64 3, .int .u64 0] from (k32_mkM _ _ _ (⟨3, 0⟩ : S32) )) (Reps.none _ _)))); intro v107 w103 ho104 hb hg_ hnew_; clear hg_ hnew_; (first | rw [← Ny106.out] at ho104 | (simp only [Int.reduceToNat] at ho104; rw [← Ny106.out] at ho104)); have n0_ := Aside0.mk (Kd.R_elder' (by (with_reducible repeat (first | apply Kd.R_alloc | apply Kd.R_drewN | apply Kd.R_drew)); exact HO105.out) (Kd.R_base ho104) hb); have n1_ := Aside0.mk (Kd.R_lower (Kd.R_new' ho104 (Kd.R_lt (by (with_reducible repeat (first | apply Kd.R_alloc | apply Kd.R_drewN | apply Kd.R_drew)); exact HO105.out))) (below_size (by repeat (first | (with_reducible first | exact HB.out | apply below_alloc | apply pw_below_drewN | apply below_drew1) | exact HB.out)))); have n2_ := Aside0.mk (below_step (by repeat (first | (with_reducible first | exact HB.out | apply below_alloc | apply pw_below_drewN | apply below_drew1) | exact HB.out)) hb); clear HO105; clear HB; have HO105 := n0_; have HO108 := n1_; have HB := n2_; clear n0_ n1_ n2_; clear hb ho104; obtain ⟨Ao105, co105, eo105⟩ := Kd.R_slice HO105.out; subst eo105; obtain ⟨Ao106, co106, eo106⟩ := Kd.R_slice HO108.out; subst eo106) | ((with_reducible refine gate_dst (N := 10) rfl ?_); (try (refine gate_guard (by rfl) ?_; dsimp only)); refine Kd.N_lit (Kd.slice 32 k32) _ 25 ?hg (N' := 10) ?hd (xs := ([y103, y106] : List (List (S32)))) (inner := [.slice Ao105 y103.length co105, .slice Ao106 y106.length co106]) (ok := (fun _ => True)) (okp := (fun _ => True)) ?hr ?hp (fun _ hk => hk) ((show ∀ k_, w103.heap.size ≤ k_ → (fun _ => True) k_ from fun k_ hk => trivial) _ (Nat.le_refl _)) (Below.refl _ _) (Nat.le_refl _) (by simp) ?_; (case hd => rfl); (case hg => rfl); (case hr => first | (go_simp; done) | (go_simp; rfl)); (case hp => exact (Reps.one (show Kd.FK (Kd.slice 32 k32) _ _ y103 [.slice Ao105 y103.length co105] from (Kd.FK_slice_mk (Kd.R_reads' (Kd.R_mono (ok' := (fun _ => True)) (HO105.out) (fun k_ hk => trivial))).2.1 (Kd.R_F (Kd.R_mono (ok' := (fun _ => True)) (HO105.out) (fun k_ hk => trivial))))) (Reps.one (show Kd.FK (Kd.slice 32 k32) _ _ y106 [.slice Ao106 y106.length co106] from (Kd.FK_slice_mk (Kd.R_reads' (Kd.R_mono (ok' := (fun _ => True)) (HO108.out) (fun k_ hk => trivial))).2.1 (Kd.R_F (Kd.R_mono (ok' := (fun _ => True)) (HO108.out) (fun k_ hk => trivial))))) (Reps.none _ _)))); intro v110 w107 ho108 hb hg_ hnew_; clear hg_ hnew_; (first | rw [← Ny109.out] at ho108 | (simp only [Int.reduceToNat] at ho108; rw [← Ny109.out] at ho108)); have n0_ := Aside0.mk (Kd.N_lower ho108 (below_size (by repeat (first | (with_reducible first | exact HB.out | apply below_alloc | apply pw_below_drewN | apply below_drew1) | exact HB.out)))); have n1_ := Aside0.mk (below_step (by repeat (first | (with_reducible first | exact HB.out | apply below_alloc | apply pw_below_drewN | apply below_drew1) | exact HB.out)) hb); clear HB; clear HO105; clear HO108; have HO111 := n0_; have HB := n1_; clear n0_ n1_; clear hb ho108; obtain ⟨Ao109, co109, eo109⟩ := Kd.N_slice HO111.out; subst eo109) | ((with_reducible refine gate_callee (f := 10) rfl ?_); refine goesL_ (some 12) rfl rfl Try.func10 (by kernel_rfl) rfl #[.slice Ao109 y109.length co109, .int .i64 9] rfl (by (try simp only [List.map_toArray, List.map_cons, List.map_nil]); first | done | rfl | (simp only [List.length_drop, List.length_take]; rfl)) ?_; (with_reducible refine (merge_Pairs.calls _ _ y109 9 t112 _ ?side1 ?side2 A1.out).mono ?_); (case side1 => repeat (first | exact (Kd.N_reads' HO111.out).2.2 | (with_reducible refine Kd.C_alloc ?_ _) | (with_reducible refine Kd.C_drewN ?_ _) | (with_reducible refine Kd.C_drew ?_))); (case side2 => exact (Kd.N_reads' HO111.out).2.1); rintro e w110 ⟨v113, rfl, ho0, hb⟩; refine ⟨_, rfl, ?_⟩; have n0_ := Aside0.mk (Kd.N_elder' (by (with_reducible repeat (first | apply Kd.N_alloc | apply Kd.N_drewN | apply Kd.N_drew)); exact HO111.out) (Kd.R_base ho0) hb); have n1_ := Aside0.mk (Kd.R_lower ho0 (below_size (by repeat (first | (with_reducible first | exact HB.out | apply below_alloc | apply pw_below_drewN | apply below_drew1) | exact HB.out)))); have n2_ := Aside0.mk (below_step (by repeat (first | (with_reducible first | exact HB.out | apply below_alloc | apply pw_below_drewN | apply below_drew1) | exact HB.out)) hb); clear HO111; clear HB; have HO111 := n0_; have HO114 := n1_; have HB := n2_; clear n0_ n1_ n2_; (try clear hb); (try clear hb2); (try clear hk); (try clear hi); (try clear ho0)) | ((with_reducible refine gate_callee (f := 10) rfl ?_); refine goesL_ (some 14) rfl rfl Try.func10 (by kernel_rfl) rfl #[.slice Ao109 y109.length co109, .int .i64 2] rfl (by (try simp only [List.map_toArray, List.map_cons, List.map_nil]); first | done | rfl | (simp only [List.length_drop, List.length_take]; rfl)) ?_; (with_reducible refine (merge_Pairs.calls _ _ y109 2 t115 _ ?side1 ?side2 A2.out).mono ?_); (case side1 => repeat (first | exact (Kd.N_reads' HO111.out).2.2 | (with_reducible refine Kd.C_alloc ?_ _) | (with_reducible refine Kd.C_drewN ?_ _) | (with_reducible refine Kd.C_drew ?_))); (case side2 => exact (Kd.N_reads' HO111.out).2.1); rintro e w111 ⟨v116, rfl, ho0, hb⟩; refine ⟨_, rfl, ?_⟩; have n0_ := Aside0.mk (Kd.N_elder' (by (with_reducible repeat (first | apply Kd.N_alloc | apply Kd.N_drewN | apply Kd.N_drew)); exact HO111.out) (Kd.R_base ho0) hb); have n1_ := Aside0.mk (Kd.R_elder' (by (with_reducible repeat (first | apply Kd.R_alloc | apply Kd.R_drewN | apply Kd.R_drew)); exact HO114.out) (Kd.R_base ho0) hb); have n2_ := Aside0.mk (Kd.R_lower (Kd.R_new' ho0 (Kd.R_lt (by (with_reducible repeat (first | apply Kd.R_alloc | apply Kd.R_drewN | apply Kd.R_drew)); exact HO114.out))) (below_size (by repeat (first | (with_reducible first | exact HB.out | apply below_alloc | apply pw_below_drewN | apply below_drew1) | exact HB.out)))); have n3_ := Aside0.mk (below_step (by repeat (first | (with_reducible first | exact HB.out | apply below_alloc | apply pw_below_drewN | apply below_drew1) | exact HB.out)) hb); clear HO111; clear HO114; clear HB; have HO111 := n0_; have HO114 := n1_; have HO117 := n2_; have HB := n3_; clear n0_ n1_ n2_ n3_; (try clear hb); (try clear hb2); (try clear hk); (try clear hi); (try clear ho0); obtain ⟨Ao112, co112, eo112⟩ := Kd.R_slice HO114.out; subst eo112; have p118 : 0 ≤ (1 : Int) := (by omega); have q118 : 1 < (t112.length : Int) := of_decide_eq_true (by first | (with_reducible assumption) | assumption); obtain ⟨ad118, e118, hx118_0, hx118_1⟩ := at_T32 (Kd.R_reads' HO114.out).2.2 1 p118 q118; cases e118; (try simp only [show (1 : Int).toNat = 1 from rfl, Nat.reduceMul, Nat.reduceEqDiff, Go.Addr.add, ↓reduceIte] at hx118_0); (try simp only [show (1 : Int).toNat = 1 from rfl, Nat.reduceMul, Nat.reduceEqDiff, Go.Addr.add, ↓reduceIte] at hx118_1); have qi118 : (1 < t112.length) = True := eq_true (by omega); (try rw [show ((1 : Int)).toNat = 1 from rfl] at hx118_0); (try rw [show 1 * 2 = 2 from rfl] at hx118_0); (try rw [show ((1 : Int)).toNat = 1 from rfl] at hx118_1); (try rw [show 1 * 2 = 2 from rfl] at hx118_1); replace p118 := eq_true p118; replace q118 := eq_true q118))
        go_ret
        exact ⟨by first | rfl | (simp [errW_none, errW_some] <;> rfl) | (simp [*, errW_none, errW_some] <;> rfl), by repeat (first | (with_reducible first | exact HB.out | apply below_alloc | apply pw_below_drewN | apply below_drew1) | exact HB.out)⟩
    · rw [if_neg c4] at H
      exact absurd H (by simp)
  · rw [if_neg c3] at H
    have c3b0 : ((t112.length : Int) == 4) = false := beq_eq_false_iff_ne.mpr c3
    have c3b1 : ((t112.length : Int) != 4) = true := bne_iff_ne.mpr c3
    obtain rfl := Option.some.inj H
    go_enter Try.func8, Try.ntmps8
    go_wp2_with (first | ((with_reducible refine gate_dst (N := 6) rfl ?_); (try (refine gate_guard (by rfl) ?_; dsimp only)); refine Kd.R_lit k32 _ 32 ?hg (N := 6) ?hd (xs := ([(⟨1, 0⟩ : S32), (⟨4, 0⟩ : S32)] : List (S32))) (inner := [.int .u64 1, .int .u64 0, .int .u64 4, .int .u64 0]) (ok := fun _ => True) (okp := fun _ => True) ?hr ?hp (fun _ hk => hk) trivial (Below.refl _ _) (Nat.le_refl _) (by simp) ?_; (case hd => rfl); (case hg => rfl); (case hr => first | (go_simp; done) | (go_simp; rfl)); (case hp => exact (Reps.c2 (show Kd.M k32 _ _ _ (⟨1, 0⟩ : S32) [.int .u64 1, .int .u64 0] from (k32_mkM _ _ _ (⟨1, 0⟩ : S32) )) (Reps.c2 (show Kd.M k32 _ _ _ (⟨4, 0⟩ : S32) [.int .u64 4, .int .u64 0] from (k32_mkM _ _ _ (⟨4, 0⟩ : S32) )) (Reps.none _ _)))); intro v104 w113 ho114 hb hg_ hnew_; clear hg_ hnew_; (first | rw [← Ny103.out] at ho114 | (simp only [Int.reduceToNat] at ho114; rw [← Ny103.out] at ho114)); have n0_ := Aside0.mk (Kd.R_lower ho114 (below_size (by repeat (first | (with_reducible first | exact HB.out | apply below_alloc | apply pw_below_drewN | apply below_drew1) | exact HB.out)))); have n1_ := Aside0.mk (below_step (by repeat (first | (with_reducible first | exact HB.out | apply below_alloc | apply pw_below_drewN | apply below_drew1) | exact HB.out)) hb); clear HB; have HO105 := n0_; have HB := n1_; clear n0_ n1_; clear hb ho114) | ((with_reducible refine gate_dst (N := 9) rfl ?_); (try (refine gate_guard (by rfl) ?_; dsimp only)); refine Kd.R_lit k32 _ 32 ?hg (N := 9) ?hd (xs := ([(⟨2, 0⟩ : S32), (⟨3, 0⟩ : S32)] : List (S32))) (inner := [.int .u64 2, .int .u64 0, .int .u64 3, .int .u64 0]) (ok := fun _ => True) (okp := fun _ => True) ?hr ?hp (fun _ hk => hk) trivial (Below.refl _ _) (Nat.le_refl _) (by simp) ?_; (case hd => rfl); (case hg => rfl); (case hr => first | (go_simp; done) | (go_simp; rfl)); (case hp => exact (Reps.c2 (show Kd.M k32 _ _ _ (⟨2, 0⟩ : S32) [.int .u64 2, .int .u64 0] from (k32_mkM _ _ _ (⟨2, 0⟩ : S32) )) (Reps.c2 (show Kd.M k32 _ _ _ (⟨3, 0⟩ : S32) [.int .u64 3, .int .u64 0] from (k32_mkM _ _ _ (⟨3, 0⟩ : S32) )) (Reps.none _ _)))); intro v107 w115 ho116 hb hg_ hnew_; clear hg_ hnew_; (first | rw [← Ny106.out] at ho116 | (simp only [Int.reduceToNat] at ho116; rw [← Ny106.out] at ho116)); have n0_ := Aside0.mk (Kd.R_elder' (by (with_reducible repeat (first | apply Kd.R_alloc | apply Kd.R_drewN | apply Kd.R_drew)); exact HO105.out) (Kd.R_base ho116) hb); have n1_ := Aside0.mk (Kd.R_lower (Kd.R_new' ho116 (Kd.R_lt (by (with_reducible repeat (first | apply Kd.R_alloc | apply Kd.R_drewN | apply Kd.R_drew)); exact HO105.out))) (below_size (by repeat (first | (with_reducible first | exact HB.out | apply below_alloc | apply pw_below_drewN | apply below_drew1) | exact HB.out)))); have n2_ := Aside0.mk (below_step (by repeat (first | (with_reducible first | exact HB.out | apply below_alloc | apply pw_below_drewN | apply below_drew1) | exact HB.out)) hb); clear HO105; clear HB; have HO105 := n0_; have HO108 := n1_; have HB := n2_; clear n0_ n1_ n2_; clear hb ho116; obtain ⟨Ao117, co117, eo117⟩ := Kd.R_slice HO105.out; subst eo117; obtain ⟨Ao118, co118, eo118⟩ := Kd.R_slice HO108.out; subst eo118) | ((with_reducible refine gate_dst (N := 10) rfl ?_); (try (refine gate_guard (by rfl) ?_; dsimp only)); refine Kd.N_lit (Kd.slice 32 k32) _ 25 ?hg (N' := 10) ?hd (xs := ([y103, y106] : List (List (S32)))) (inner := [.slice Ao117 y103.length co117, .slice Ao118 y106.length co118]) (ok := (fun _ => True)) (okp := (fun _ => True)) ?hr ?hp (fun _ hk => hk) ((show ∀ k_, w115.heap.size ≤ k_ → (fun _ => True) k_ from fun k_ hk => trivial) _ (Nat.le_refl _)) (Below.refl _ _) (Nat.le_refl _) (by simp) ?_; (case hd => rfl); (case hg => rfl); (case hr => first | (go_simp; done) | (go_simp; rfl)); (case hp => exact (Reps.one (show Kd.FK (Kd.slice 32 k32) _ _ y103 [.slice Ao117 y103.length co117] from (Kd.FK_slice_mk (Kd.R_reads' (Kd.R_mono (ok' := (fun _ => True)) (HO105.out) (fun k_ hk => trivial))).2.1 (Kd.R_F (Kd.R_mono (ok' := (fun _ => True)) (HO105.out) (fun k_ hk => trivial))))) (Reps.one (show Kd.FK (Kd.slice 32 k32) _ _ y106 [.slice Ao118 y106.length co118] from (Kd.FK_slice_mk (Kd.R_reads' (Kd.R_mono (ok' := (fun _ => True)) (HO108.out) (fun k_ hk => trivial))).2.1 (Kd.R_F (Kd.R_mono (ok' := (fun _ => True)) (HO108.out) (fun k_ hk => trivial))))) (Reps.none _ _)))); intro v110 w119 ho120 hb hg_ hnew_; clear hg_ hnew_; (first | rw [← Ny109.out] at ho120 | (simp only [Int.reduceToNat] at ho120; rw [← Ny109.out] at ho120)); have n0_ := Aside0.mk (Kd.N_lower ho120 (below_size (by repeat (first | (with_reducible first | exact HB.out | apply below_alloc | apply pw_below_drewN | apply below_drew1) | exact HB.out)))); have n1_ := Aside0.mk (below_step (by repeat (first | (with_reducible first | exact HB.out | apply below_alloc | apply pw_below_drewN | apply below_drew1) | exact HB.out)) hb); clear HB; clear HO105; clear HO108; have HO111 := n0_; have HB := n1_; clear n0_ n1_; clear hb ho120; obtain ⟨Ao121, co121, eo121⟩ := Kd.N_slice HO111.out; subst eo121) | ((with_reducible refine gate_callee (f := 10) rfl ?_); refine goesL_ (some 12) rfl rfl Try.func10 (by kernel_rfl) rfl #[.slice Ao121 y109.length co121, .int .i64 9] rfl (by (try simp only [List.map_toArray, List.map_cons, List.map_nil]); first | done | rfl | (simp only [List.length_drop, List.length_take]; rfl)) ?_; (with_reducible refine (merge_Pairs.calls _ _ y109 9 t112 _ ?side1 ?side2 A1.out).mono ?_); (case side1 => repeat (first | exact (Kd.N_reads' HO111.out).2.2 | (with_reducible refine Kd.C_alloc ?_ _) | (with_reducible refine Kd.C_drewN ?_ _) | (with_reducible refine Kd.C_drew ?_))); (case side2 => exact (Kd.N_reads' HO111.out).2.1); rintro e w122 ⟨v113, rfl, ho0, hb⟩; refine ⟨_, rfl, ?_⟩; have n0_ := Aside0.mk (Kd.N_elder' (by (with_reducible repeat (first | apply Kd.N_alloc | apply Kd.N_drewN | apply Kd.N_drew)); exact HO111.out) (Kd.R_base ho0) hb); have n1_ := Aside0.mk (Kd.R_lower ho0 (below_size (by repeat (first | (with_reducible first | exact HB.out | apply below_alloc | apply pw_below_drewN | apply below_drew1) | exact HB.out)))); have n2_ := Aside0.mk (below_step (by repeat (first | (with_reducible first | exact HB.out | apply below_alloc | apply pw_below_drewN | apply below_drew1) | exact HB.out)) hb); clear HO111; clear HB; have HO111 := n0_; have HO114 := n1_; have HB := n2_; clear n0_ n1_ n2_; (try clear hb); (try clear hb2); (try clear hk); (try clear hi); (try clear ho0)) | ((with_reducible refine gate_callee (f := 10) rfl ?_); refine goesL_ (some 14) rfl rfl Try.func10 (by kernel_rfl) rfl #[.slice Ao121 y109.length co121, .int .i64 2] rfl (by (try simp only [List.map_toArray, List.map_cons, List.map_nil]); first | done | rfl | (simp only [List.length_drop, List.length_take]; rfl)) ?_; (with_reducible refine (merge_Pairs.calls _ _ y109 2 t115 _ ?side1 ?side2 A2.out).mono ?_); (case side1 => repeat (first | exact (Kd.N_reads' HO111.out).2.2 | (with_reducible refine Kd.C_alloc ?_ _) | (with_reducible refine Kd.C_drewN ?_ _) | (with_reducible refine Kd.C_drew ?_))); (case side2 => exact (Kd.N_reads' HO111.out).2.1); rintro e w123 ⟨v116, rfl, ho0, hb⟩; refine ⟨_, rfl, ?_⟩; have n0_ := Aside0.mk (Kd.N_elder' (by (with_reducible repeat (first | apply Kd.N_alloc | apply Kd.N_drewN | apply Kd.N_drew)); exact HO111.out) (Kd.R_base ho0) hb); have n1_ := Aside0.mk (Kd.R_elder' (by (with_reducible repeat (first | apply Kd.R_alloc | apply Kd.R_drewN | apply Kd.R_drew)); exact HO114.out) (Kd.R_base ho0) hb); have n2_ := Aside0.mk (Kd.R_lower (Kd.R_new' ho0 (Kd.R_lt (by (with_reducible repeat (first | apply Kd.R_alloc | apply Kd.R_drewN | apply Kd.R_drew)); exact HO114.out))) (below_size (by repeat (first | (with_reducible first | exact HB.out | apply below_alloc | apply pw_below_drewN | apply below_drew1) | exact HB.out)))); have n3_ := Aside0.mk (below_step (by repeat (first | (with_reducible first | exact HB.out | apply below_alloc | apply pw_below_drewN | apply below_drew1) | exact HB.out)) hb); clear HO111; clear HO114; clear HB; have HO111 := n0_; have HO114 := n1_; have HO117 := n2_; have HB := n3_; clear n0_ n1_ n2_ n3_; (try clear hb); (try clear hb2); (try clear hk); (try clear hi); (try clear ho0); obtain ⟨Ao124, co124, eo124⟩ := Kd.R_slice HO114.out; subst eo124))
    go_ret
    exact ⟨by first | rfl | (simp [errW_none, errW_some] <;> rfl) | (simp [*, errW_none, errW_some] <;> rfl), by repeat (first | (with_reducible first | exact HB.out | apply below_alloc | apply pw_below_drewN | apply below_drew1) | exact HB.out)⟩

/-! ### corrieref09_Same: function 11 -/
def corrieref09_Same.l0 : Nat → List (S32) → List (S32) → Int → Option (Bool)
  | 0, _, _, _ => none
  | k + 1, x0, x1, x5 => if x5 < (x0.length : Int) then (if 0 ≤ x5 then (if x5 < (x1.length : Int) then (if (!(((rd_T32 x0 x5).f0) == ((rd_T32 x1 x5).f0)) || (!(((rd_T32 x0 x5).f1) == ((rd_T32 x1 x5).f1)))) = true then (some false) else (corrieref09_Same.l0 k x0 x1 (wrap64 (x5 + 1)))) else (none)) else (none)) else (some true)
def corrieref09_Same.f (k : Nat) (l0 : List (S32)) (l1 : List (S32)) : Option (Bool) := if (l0.length : Int) = (l1.length : Int) then (corrieref09_Same.l0 k l0 l1 0) else (some false)
theorem corrieref09_Same.mono_l : ∀ k, (∀ y0 y1 y2, LeO (corrieref09_Same.l0 k y0 y1 y2) (corrieref09_Same.l0 (k + 1) y0 y1 y2))
  | 0 => fun _ _ _ r h => by simp [corrieref09_Same.l0] at h
  | k + 1 => by
    have ih0 := corrieref09_Same.mono_l k
    · intro y0 y1 y2
      unfold corrieref09_Same.l0
      repeat' first
      | (with_reducible exact ih0 _ _ _)
      | (with_reducible exact LeO.refl _)
      | (with_reducible exact LeO.none _)
      | (with_reducible refine LeO.ite ?_ ?_)
      | (with_reducible refine LeO.bind ?_ (fun _ => ?_))
      | exact ih0 _ _ _
      | exact LeO.none _
      | refine LeO.ite ?_ ?_
      | refine LeO.bind ?_ (fun _ => ?_)
theorem corrieref09_Same.mono : ∀ a0 a1 k, LeO (corrieref09_Same.f k a0 a1) (corrieref09_Same.f (k + 1) a0 a1) := by
  intro a0 a1 k
  have ih0 := corrieref09_Same.mono_l k
  unfold corrieref09_Same.f
  repeat' first
      | (with_reducible exact ih0 _ _ _)
      | (with_reducible exact LeO.refl _)
      | (with_reducible exact LeO.none _)
      | (with_reducible refine LeO.ite ?_ ?_)
      | (with_reducible refine LeO.bind ?_ (fun _ => ?_))
      | exact ih0 _ _ _
      | exact LeO.none _
      | refine LeO.ite ?_ ?_
      | refine LeO.bind ?_ (fun _ => ?_)
set_option maxHeartbeats 8000000 in
set_option maxRecDepth 100000 in
theorem corrieref09_Same.calls (k : Nat) (A0 : Option Addr) (c0 : Nat) (l0 : List (S32)) (A1 : Option Addr) (c1 : Nat) (l1 : List (S32)) (r : Bool) (w : World) (hr0 : Kd.C k32 w A0 l0.length l0) (hc0 : l0.length ≤ c0) (hr1 : Kd.C k32 w A1 l1.length l1) (hc1 : l1.length ≤ c1) (h : corrieref09_Same.f k l0 l1 = some r) :
    Calls Try.prog 11 #[.slice A0 l0.length c0, .slice A1 l1.length c1] w fun e w' => e = .returned (.bool r) ∧ Drawn0 w w' := by
  have hu32 := Try.underlying32
  have HR0 := Aside0.mk hr0
  have HC0 := Aside0.mk hc0
  clear hr0 hc0
  have HR1 := Aside0.mk hr1
  have HC1 := Aside0.mk hc1
  clear hr1 hc1
  have H : (if (l0.length : Int) = (l1.length : Int) then (corrieref09_Same.l0 k l0 l1 0) else (some false)) = some r := h
  clear h
  by_cases c3 : (l0.length : Int) = (l1.length : Int)
  · rw [if_pos c3] at H
    have c3b0 : ((l0.length : Int) == (l1.length : Int)) = true := beq_iff_eq.mpr c3
    have c3b1 : ((l0.length : Int) != (l1.length : Int)) = false := bne_eq_false_iff_eq.mpr c3
    have c3b2 : (l0.length == l1.length) = true := by first | simpa using c3 | (simp at c3 ⊢; omega)
    clear c3
    have H' := Aside0.mk H
    clear H
    go_enter Try.func11, Try.ntmps11
    go_wp2
    repeat (go_quiet (fail); try go_wp2)
    go_loopg [5] k (fun kq v5 w' => ∃ (x5_1 : Int), v5 = .int .i64 x5_1 ∧ Aside0 (corrieref09_Same.l0 kq l0 l1 x5_1 = some r) ∧ Aside0 (kq ≤ k) ∧ Drawn0 w w')
    case atStart => exact ⟨(0), (by first | rfl | (simp; done) | (simp [*]; done)), H', ⟨Nat.le_refl _⟩, by repeat (first | exact Drawn0.refl _ | apply Drawn0.step)⟩
    case round =>
      clear H'
      try clear c1
      try clear p2
      try clear c3
      try clear c3b0
      try clear c3b1
      try clear c3b2
      obtain ⟨x5_1, rfl, HA, HK1, ⟨m1, rfl⟩⟩ := hrel
      cases gk with
      | zero => exact absurd HA.out (by simp [corrieref09_Same.l0])
      | succ k1 =>
        have H := HA.out
        clear HA
        simp only [corrieref09_Same.l0] at H
        by_cases c4 : x5_1 < (l0.length : Int)
        · rw [if_pos c4] at H
          have c4b0 : decide (x5_1 < (l0.length : Int)) = true := decide_eq_true c4
          clear c4
          by_cases c5 : 0 ≤ x5_1
          · rw [if_pos c5] at H
            have c5b0 : decide (0 ≤ x5_1) = true := decide_eq_true c5
            clear c5
            by_cases c6 : x5_1 < (l1.length : Int)
            · rw [if_pos c6] at H
              have c6b0 : decide (x5_1 < (l1.length : Int)) = true := decide_eq_true c6
              clear c6
              by_cases c7 : (!(((rd_T32 l0 x5_1).f0) == ((rd_T32 l1 x5_1).f0)) || (!(((rd_T32 l0 x5_1).f1) == ((rd_T32 l1 x5_1).f1)))) = true
              · rw [if_pos c7] at H
                have c7b0 : (!(((rd_T32 l0 x5_1).f0) == ((rd_T32 l1 x5_1).f0)) || (!(((rd_T32 l0 x5_1).f1) == ((rd_T32 l1 x5_1).f1)))) = true := c7
                clear c7
                obtain rfl := Option.some.inj H
                have p129 : 0 ≤ (x5_1 : Int) := of_decide_eq_true (by first | (with_reducible assumption) | assumption)
                have q129 : x5_1 < (l0.length : Int) := of_decide_eq_true (by first | (with_reducible assumption) | assumption)
                obtain ⟨ad129, e129, hx129_0, hx129_1⟩ := at_T32 HR0.out x5_1 p129 q129
                cases e129
                replace p129 := eq_true p129
                replace q129 := eq_true q129
                have p130 : 0 ≤ (x5_1 : Int) := of_decide_eq_true (by first | (with_reducible assumption) | assumption)
                have q130 : x5_1 < (l1.length : Int) := of_decide_eq_true (by first | (with_reducible assumption) | assumption)
                obtain ⟨ad130, e130, hx130_0, hx130_1⟩ := at_T32 HR1.out x5_1 p130 q130
                cases e130
                replace p130 := eq_true p130
                replace q130 := eq_true q130
                go_wp2
                repeat (go_quiet (fail); try go_wp2)
                go_ret
                exact ⟨by first | rfl | (simp; done) | (simp [*]; done), by repeat (first | exact Drawn0.refl _ | apply Drawn0.step)⟩
              · rw [if_neg c7] at H
                have c7b0 : (!(((rd_T32 l0 x5_1).f0) == ((rd_T32 l1 x5_1).f0)) || (!(((rd_T32 l0 x5_1).f1) == ((rd_T32 l1 x5_1).f1)))) = false := by simpa using c7
                clear c7
                have H' := Aside0.mk H
                clear H
                have p129 : 0 ≤ (x5_1 : Int) := of_decide_eq_true (by first | (with_reducible assumption) | assumption)
                have q129 : x5_1 < (l0.length : Int) := of_decide_eq_true (by first | (with_reducible assumption) | assumption)
                obtain ⟨ad129, e129, hx129_0, hx129_1⟩ := at_T32 HR0.out x5_1 p129 q129
                cases e129
                replace p129 := eq_true p129
                replace q129 := eq_true q129
                have p130 : 0 ≤ (x5_1 : Int) := of_decide_eq_true (by first | (with_reducible assumption) | assumption)
                have q130 : x5_1 < (l1.length : Int) := of_decide_eq_true (by first | (with_reducible assumption) | assumption)
                obtain ⟨ad130, e130, hx130_0, hx130_1⟩ := at_T32 HR1.out x5_1 p130 q130
                cases e130
                replace p130 := eq_true p130
                replace q130 := eq_true q130
                go_wp2
                repeat (go_quiet (fail); try go_wp2)
                go_roundg k1
                case measure => have := HK1.out; omega
                case rel => exact ⟨(wrap64 (x5_1 + 1)), (by first | rfl | (simp; done) | (simp [*]; done)), H', ⟨by have := HK1.out; omega⟩, by repeat (first | exact Drawn0.refl _ | apply Drawn0.step)⟩
            · rw [if_neg c6] at H
              exact absurd H (by simp)
          · rw [if_neg c5] at H
            exact absurd H (by simp)
        · rw [if_neg c4] at H
          have c4b0 : decide (x5_1 < (l0.length : Int)) = false := decide_eq_false c4
          clear c4
          obtain rfl := Option.some.inj H
          go_wp2
          repeat (go_quiet (fail); try go_wp2)
          go_ret
          exact ⟨by first | rfl | (simp; done) | (simp [*]; done), by repeat (first | exact Drawn0.refl _ | apply Drawn0.step)⟩
  · rw [if_neg c3] at H
    have c3b0 : ((l0.length : Int) == (l1.length : Int)) = false := beq_eq_false_iff_ne.mpr c3
    have c3b1 : ((l0.length : Int) != (l1.length : Int)) = true := bne_iff_ne.mpr c3
    have c3b2 : (l0.length == l1.length) = false := by first | simpa using c3 | (simp at c3 ⊢; omega)
    obtain rfl := Option.some.inj H
    go_enter Try.func11, Try.ntmps11
    go_wp2
    repeat (go_quiet (fail); try go_wp2)
    go_ret
    exact ⟨by first | rfl | (simp; done) | (simp [*]; done), by repeat (first | exact Drawn0.refl _ | apply Drawn0.step)⟩

/-! ### corrielaw17_MergeOne: function 7 (by hand) -/
theorem rowC {W : World} {g : Nat} (vs : List Value) (ls : List (List S32)) (hn : vs.length = ls.length) (hmax : ls.length ≤ 1000) (hg : W.heap[g]? = some (.cells vs.toArray 25 (0, 0)))
    (hv : ∀ (j : Nat) (l : List S32), ls[j]? = some l → ∃ A c, vs[j]? = some (.slice A l.length c) ∧ l.length ≤ c ∧ Kd.C k32 W A l.length l) : Kd.C (Kd.slice 32 k32) W (some ⟨g, 0, none⟩) ls.length ls := by
  refine ⟨rfl, by omega, fun _ => ⟨_, rfl, fun j p hj => ?_⟩⟩
  obtain ⟨A, c, h1, h2, h3⟩ := hv j p hj
  refine ⟨[.slice A p.length c], rfl, ⟨A, c, rfl, h2, h3⟩, fun i u hu => ?_⟩
  have hi : i = 0 := by have := (List.getElem?_eq_some_iff.1 hu).1; simp at this; exact this
  subst hi
  have hs : (Kd.slice 32 k32).sz = 1 := rfl
  rw [hs, Addr.add_lit]
  simp at hu
  subst hu
  have h := blk_cell hg j
  rw [show 0 + (j * 1 + 0) = j from by omega, h]
  simpa using h1
def corrielaw17_MergeOne.T5 : Bool × List (List Nat × List Nat) := (true, [([], []), ([0], [0]), ([1], [1]), ([2, 1], [1, 2]), ([1], [1]), ([4, 1], [1, 4]), ([3, 5, 1, 1], [1, 3, 5]), ([1], [1]), ([1], [1]), ([7, 8, 1], [1, 7, 8]), ([6, 9, 6, 1], [1, 6, 9]), ([1, 10], [1, 10]), ([11, 10], [11]), ([12], [12]), ([13, 12], [12, 13]), ([12], [12]), ([15, 12], [12, 15]), ([14, 16, 12, 12], [12, 14, 16]), ([12], [12]), ([12], [12]), ([18, 19, 12], [12, 18, 19]), ([17, 20, 17, 12], [12, 17, 20]), ([12, 21], [12, 21]), ([22, 21], [22]), ([23], [23]), ([24, 23], [23, 24]), ([25, 23, 23], [23, 25]), ([26, 23], [23, 26]), ([27, 23], [23, 27]), ([23, 28], [23, 28]), ([29, 26, 0, 1, 2, 3, 4, 5, 6, 7, 8, 9, 10, 11, 12, 13, 14, 15, 16, 17, 18, 19, 20, 21, 22, 23, 24, 25, 26, 27, 28, 29], [29])])
def corrielaw17_MergeOne.B5 : List Nat := [0, 1, 3, 7, 3, 19, 63, 3, 3, 387, 1023, 2047, 4095, 8191, 16383, 8191, 40959, 131071, 8191, 8191, 794623, 2097151, 4194303, 8388607, 16777215, 33554431, 67108863, 134217727, 268435455, 536870911, 1073741823]
theorem corrielaw17_MergeOne.tab5 : rtab .any (opsOf Try.f7 5) = corrielaw17_MergeOne.T5 := by kernel_rfl
theorem corrielaw17_MergeOne.bits5 : waitsOk corrielaw17_MergeOne.T5.2 corrielaw17_MergeOne.B5 = true := by kernel_rfl
def lb_ (n m : Nat) : Array Bool := ((List.range n).map (fun i => m.testBit i)).toArray
def corrielaw17_MergeOne.f (k : Nat) (l0 : List S32) (a1 : Int) : Option Bool := (corrielaw17_awake.f k).bind fun t => if l0.length > 20 then some t else if 0 ≤ a1 ∧ a1 ≤ 255 ∧ t = true then (merge_Pairs.f [l0] a1).bind fun p1 => (corrieref09_Same.f k p1 (l0.take (min a1.toNat l0.length))).bind fun s1 => (merge_Pairs.f [[], l0, []] a1).bind fun p2 => (corrieref09_Same.f k p2 (l0.take (min a1.toNat l0.length))).bind fun s2 => (merge_Pairs.f [] a1).bind fun p3 => if s1 = true ∧ s2 = true ∧ p3 = [] then some true else none else none
set_option maxHeartbeats 4000000 in
set_option maxRecDepth 100000 in
theorem corrielaw17_MergeOne.calls (k : Nat) (A0 : Option Addr) (c0 : Nat) (l0 : List (S32)) (a1 : Int) (r : Bool) (w : World) (hr0 : Kd.C k32 w A0 l0.length l0) (hc0 : l0.length ≤ c0) (h : corrielaw17_MergeOne.f k l0 a1 = some r) :
    Calls Try.prog 7 #[.slice A0 l0.length c0, .int .u8 a1] w fun e w' => e = .returned (.bool r) ∧ Below w.heap.size w w' := by
  have HR0 := Aside0.mk hr0
  have HC0 := Aside0.mk hc0
  clear hr0 hc0
  unfold corrielaw17_MergeOne.f at h
  obtain ⟨t, hA, h⟩ := Option.bind_eq_some_iff.mp h
  have HAW := Aside0.mk (show ∀ W : World, Calls Try.prog 8 #[] W (fun e w' => e = .returned (.bool t) ∧ Below W.heap.size W w') from fun W => corrielaw17_awake.calls k t W hA)
  clear hA
  have HB := Aside0.mk (Below.refl w.heap.size w)
  by_cases h20 : l0.length > 20
  · rw [if_pos h20] at h
    obtain rfl := Option.some.inj h
    clear h
    have hb20 : (20 : Int) < (l0.length : Int) := by omega
    go_enter Try.func7, Try.ntmps7
    go_wp2_with (go_at_call 8; refine (HAW.out _).mono ?_; rintro e w1 ⟨rfl, hb⟩; have n1_ := Aside0.mk (below_step HB.out hb); clear HB hb; have HB := n1_; clear n1_)
    go_ret
    exact ⟨rfl, HB.out⟩
  · rw [if_neg h20] at h
    by_cases hc : 0 ≤ a1 ∧ a1 ≤ 255 ∧ t = true
    · rw [if_pos hc] at h
      obtain ⟨h0, h255, rfl⟩ := hc
      obtain ⟨p1, q1, h⟩ := Option.bind_eq_some_iff.mp h
      obtain ⟨s1, q2, h⟩ := Option.bind_eq_some_iff.mp h
      obtain ⟨p2, q3, h⟩ := Option.bind_eq_some_iff.mp h
      obtain ⟨s2, q4, h⟩ := Option.bind_eq_some_iff.mp h
      obtain ⟨p3, q5, h⟩ := Option.bind_eq_some_iff.mp h
      by_cases hs : s1 = true ∧ s2 = true ∧ p3 = []
      · rw [if_pos hs] at h
        obtain rfl := Option.some.inj h
        obtain ⟨rfl, rfl, rfl⟩ := hs
        have hb20 : ¬ (20 : Int) < (l0.length : Int) := by omega
        have Q1 := Aside0.mk q1
        have Q2 := Aside0.mk q2
        have Q3 := Aside0.mk q3
        have Q4 := Aside0.mk q4
        have Q5 := Aside0.mk q5
        clear h q1 q2 q3 q4 q5 h20
        go_enter Try.func7, Try.ntmps7
        go_upto_region 5 with (go_at_call 8; refine (HAW.out _).mono ?_; rintro e w1 ⟨rfl, hb⟩; have n1_ := Aside0.mk (below_step HB.out hb); clear HB hb; have HB := n1_; clear n1_)
        obtain ⟨n, hn, hm⟩ : ∃ n : Nat, (if (l0.length : Int) < a1 then (l0.length : Int) else a1) = (n : Int) ∧ n = min a1.toNat l0.length := ⟨min a1.toNat l0.length, by split <;> omega, rfl⟩
        rw [hn]
        rw [← hm] at Q2 Q4
        have hnl : n ≤ l0.length := by omega
        have hlt : (l0.take n).length = n := by rw [List.length_take]; omega
        have hnc : (n : Int) ≤ (c0 : Int) := by have := HC0.out; omega
        have HW64 := Aside0.mk (show wrap64 a1 = a1 from by unfold wrap64; omega)
        have hn0 : (0 : Int) ≤ (n : Int) := by omega
        have H1 := Aside0.mk (show ∀ (W : World) (g : Nat), W.heap[g]? = some (.cells #[.slice A0 l0.length c0] 25 (0, 0)) → Kd.C k32 W A0 l0.length l0 → Calls Try.prog 10 #[.slice (some ⟨g, 0, none⟩) 1 1, .int .i64 (wrap64 a1)] W (fun e w' => ∃ A c, e = .returned (.slice A p1.length c) ∧ Kd.C k32 w' A p1.length p1 ∧ p1.length ≤ c ∧ Below W.heap.size W w') from fun W g hg hC => by
          rw [HW64.out]
          exact (merge_Pairs.calls (some ⟨g, 0, none⟩) 1 [l0] a1 p1 W (rowC [.slice A0 l0.length c0] [l0] rfl (by simp) hg (fun j l hj => by
            match j, hj with
            | 0, hj =>
              simp at hj
              subst hj
              exact ⟨_, _, rfl, HC0.out, hC⟩
            | j + 1, hj => simp at hj)) (Nat.le_refl _) Q1.out).mono (fun e w' h => by
              obtain ⟨v, rfl, hR, hb⟩ := h
              obtain ⟨A, c, rfl, hl, hC⟩ := Kd.R_reads hR
              exact ⟨A, c, rfl, hC, hl, hb⟩))
        have H3 := Aside0.mk (show ∀ (W : World) (g : Nat), W.heap[g]? = some (.cells #[.slice none 0 0, .slice A0 l0.length c0, .slice none 0 0] 25 (0, 0)) → Kd.C k32 W A0 l0.length l0 → Calls Try.prog 10 #[.slice (some ⟨g, 0, none⟩) 3 3, .int .i64 (wrap64 a1)] W (fun e w' => ∃ A c, e = .returned (.slice A p2.length c) ∧ Kd.C k32 w' A p2.length p2 ∧ p2.length ≤ c ∧ Below W.heap.size W w') from fun W g hg hC => by
          rw [HW64.out]
          exact (merge_Pairs.calls (some ⟨g, 0, none⟩) 3 [[], l0, []] a1 p2 W (rowC [.slice none 0 0, .slice A0 l0.length c0, .slice none 0 0] [[], l0, []] rfl (by simp) hg (fun j l hj => by
            match j, hj with
            | 0, hj =>
              simp at hj
              subst hj
              exact ⟨_, _, rfl, Nat.le_refl _, Kd.C_nil _ _⟩
            | 1, hj =>
              simp at hj
              subst hj
              exact ⟨_, _, rfl, HC0.out, hC⟩
            | 2, hj =>
              simp at hj
              subst hj
              exact ⟨_, _, rfl, Nat.le_refl _, Kd.C_nil _ _⟩
            | j + 3, hj => simp at hj)) (Nat.le_refl _) Q3.out).mono (fun e w' h => by
              obtain ⟨v, rfl, hR, hb⟩ := h
              obtain ⟨A, c, rfl, hl, hC⟩ := Kd.R_reads hR
              exact ⟨A, c, rfl, hC, hl, hb⟩))
        have H5 := Aside0.mk (show ∀ (W : World), Calls Try.prog 10 #[.slice none 0 0, .int .i64 (wrap64 a1)] W (fun e w' => ∃ A c, e = .returned (.slice A 0 c) ∧ Kd.C k32 w' A 0 [] ∧ 0 ≤ c ∧ Below W.heap.size W w') from fun W => by
          rw [HW64.out]
          exact (merge_Pairs.calls none 0 [] a1 [] W (Kd.C_nil _ _) (Nat.le_refl _) Q5.out).mono (fun e w' h => by
              obtain ⟨v, rfl, hR, hb⟩ := h
              obtain ⟨A, c, rfl, hl, hC⟩ := Kd.R_reads hR
              exact ⟨A, c, rfl, hC, hl, hb⟩))
        have H2 := Aside0.mk (show ∀ (W : World) (A : Option Addr) (c : Nat), Kd.C k32 W A p1.length p1 → p1.length ≤ c → Kd.C k32 W A0 l0.length l0 → Calls Try.prog 11 #[.slice A p1.length c, .slice A0 n c0] W (fun e w' => e = .returned (.bool true) ∧ Below W.heap.size W w') from fun W A c hC hl hC2 => by
          have h := corrieref09_Same.calls k A c p1 A0 c0 (l0.take n) true W hC hl (Kd.C_take hC2 hnl) (by have := HC0.out; omega) Q2.out
          rw [hlt] at h
          exact h.mono (fun e w' h => ⟨h.1, h.2.below⟩))
        have H4 := Aside0.mk (show ∀ (W : World) (A : Option Addr) (c : Nat), Kd.C k32 W A p2.length p2 → p2.length ≤ c → Kd.C k32 W A0 l0.length l0 → Calls Try.prog 11 #[.slice A p2.length c, .slice A0 n c0] W (fun e w' => e = .returned (.bool true) ∧ Below W.heap.size W w') from fun W A c hC hl hC2 => by
          have h := corrieref09_Same.calls k A c p2 A0 c0 (l0.take n) true W hC hl (Kd.C_take hC2 hnl) (by have := HC0.out; omega) Q4.out
          rw [hlt] at h
          exact h.mono (fun e w' h => ⟨h.1, h.2.below⟩))
        clear hn hm hlt hb20 hnl Q1 Q2 Q3 Q4 Q5
        have n1_ := Aside0.mk (below_drew1 HB.out)
        clear HB
        have HB := n1_
        clear n1_
        refine start_ (n := 31) (S := fun w' => True) (ds := []) #[false, false, false, false, false, false, false, false, false, false, false, false, false, false, false, false, false, false, false, false, false, false, false, false, false, false, false, false, false, false, false] (by kernel_rfl) rfl rfl trivial (fun hHeld => ?_); refine with_tabW corrielaw17_MergeOne.tab5 corrielaw17_MergeOne.bits5 (fun HT_ HW_ => ?_)
        generalize w1.drew = W1 at HB hHeld ⊢
        refine pure_ (i := 0) (N := some 17) (v := ?_) (a' := ?_) (lb_ 31 1) rfl rfl (any_of HT_.out (by kernel_rfl)) (fun _ _ _ h => h) (Or.inl ⟨by rfl, ?_⟩) ?_ ?_; rotate_left
        · intro w'; go_simp; with_reducible rfl
        rotate_left
        · simp only [Act.put, List.setIfInBounds_toArray, List.set_cons_zero, List.set_cons_succ, i64_w, i32_w]; rfl
        refine pure_ (i := 1) (N := some 18) (v := ?_) (a' := ?_) (lb_ 31 3) rfl rfl (any_of HT_.out (by kernel_rfl)) (fun _ _ _ h => h) (Or.inl ⟨by rfl, ?_⟩) ?_ ?_; rotate_left
        · intro w'; go_simp; with_reducible rfl
        rotate_left
        · simp only [Act.put, List.setIfInBounds_toArray, List.set_cons_zero, List.set_cons_succ, i64_w, i32_w]; rfl
        refine pure_ (i := 2) (N := some 19) (v := ?_) (a' := ?_) (lb_ 31 7) rfl rfl (any_of HT_.out (by kernel_rfl)) (fun _ _ _ h => h) (Or.inl ⟨by rfl, ?_⟩) ?_ ?_; rotate_left
        · intro w'; go_simp; with_reducible rfl
        rotate_left
        · simp only [Act.put, List.setIfInBounds_toArray, List.set_cons_zero, List.set_cons_succ, i64_w, i32_w]; rfl
        refine pure_ (i := 4) (N := some 21) (v := ?_) (a' := ?_) (lb_ 31 23) rfl rfl (any_of HT_.out (by kernel_rfl)) (fun _ _ _ h => h) (Or.inl ⟨by rfl, ?_⟩) ?_ ?_; rotate_left
        · intro w'; go_simp; with_reducible rfl
        rotate_left
        · simp only [Act.put, List.setIfInBounds_toArray, List.set_cons_zero, List.set_cons_succ, i64_w, i32_w]; rfl
        refine pure_ (i := 5) (N := some 22) (v := ?_) (a' := ?_) (lb_ 31 55) rfl rfl (any_of HT_.out (by kernel_rfl)) (fun _ _ _ h => h) (Or.inl ⟨by rfl, ?_⟩) ?_ ?_; rotate_left
        · intro w'; go_simp; with_reducible rfl
        rotate_left
        · simp only [Act.put, List.setIfInBounds_toArray, List.set_cons_zero, List.set_cons_succ, i64_w, i32_w]; rfl
        refine pure_ (i := 7) (N := some 24) (v := ?_) (a' := ?_) (lb_ 31 183) rfl rfl (any_of HT_.out (by kernel_rfl)) (fun _ _ _ h => h) (Or.inl ⟨by rfl, ?_⟩) ?_ ?_; rotate_left
        · intro w'; go_simp; with_reducible rfl
        rotate_left
        · simp only [Act.put, List.setIfInBounds_toArray, List.set_cons_zero, List.set_cons_succ, i64_w, i32_w]; rfl
        refine pure_ (i := 8) (N := some 25) (v := ?_) (a' := ?_) (lb_ 31 439) rfl rfl (any_of HT_.out (by kernel_rfl)) (fun _ _ _ h => h) (Or.inl ⟨by rfl, ?_⟩) ?_ ?_; rotate_left
        · intro w'; go_simp; with_reducible rfl
        rotate_left
        · simp only [Act.put, List.setIfInBounds_toArray, List.set_cons_zero, List.set_cons_succ, i64_w, i32_w]; rfl
        refine pure_ (i := 9) (N := some 26) (v := ?_) (a' := ?_) (lb_ 31 951) rfl rfl (any_of HT_.out (by kernel_rfl)) (fun _ _ _ h => h) (Or.inl ⟨by rfl, ?_⟩) ?_ ?_; rotate_left
        · intro w'; go_simp; with_reducible rfl
        rotate_left
        · simp only [Act.put, List.setIfInBounds_toArray, List.set_cons_zero, List.set_cons_succ, i64_w, i32_w]; rfl
        refine one_ (i := 3) (N := some 20) (lb_ 31 959) rfl rfl (one_of HT_.out (by kernel_rfl)) (by decide) (fun K hK => ?_)
        refine value_ (w1 := ?_) (v := ?_) (by rfl) rfl ?_ ?_
        rotate_left 2
        · go_simp
          constructor
          · rfl
          · rfl
        have BK3 := Aside0.mk (blk_new W1 (.cells #[.slice A0 l0.length c0] 25))
        have n1_ := Aside0.mk (below_alloc HB.out (.cells #[.slice A0 l0.length c0] 25))
        clear HB
        have HB := n1_
        clear n1_
        generalize W1.alloc (.cells #[.slice A0 l0.length c0] 25) = W3 at BK3 HB ⊢
        generalize W1.heap.size = g3 at BK3 ⊢
        refine hK.out _ _ trivial (fun hHeld => ?_)
        clear hK K
        refine norm_ (a' := ?_) ?_ ?_
        rotate_left
        · show Act.put _ (some 20) _ = _
          simp only [Act.put, List.setIfInBounds_toArray, List.set_cons_zero, List.set_cons_succ, i64_w, i32_w]
          rfl
        refine one_ (i := 6) (N := some 23) (lb_ 31 1023) rfl rfl (one_of HT_.out (by kernel_rfl)) (by decide) (fun K hK => ?_)
        refine goes_ Try.func10 (by kernel_rfl) rfl #[.slice (some ⟨g3, 0, none⟩) 1 1, .int .i64 (wrap64 a1)] (by rfl) rfl rfl (by (try simp only [List.map_toArray, List.map_cons, List.map_nil]); first | done | rfl) ?_
        with_reducible refine (H1.out _ _ BK3.out (Kd.C_below HR0.out HB.out)).mono ?_
        rintro e W6 ⟨A6, c6, rfl, hC6, hl6, hb⟩
        refine ⟨_, rfl, ?_⟩
        have HC6 := Aside0.mk hC6
        have HL6 := Aside0.mk hl6
        have n1_ := Aside0.mk (below_step HB.out hb)
        clear HB hb hC6 hl6
        have HB := n1_
        clear n1_
        refine hK.out _ _ trivial (fun hHeld => ?_)
        clear hK K
        refine norm_ (a' := ?_) ?_ ?_
        rotate_left
        · show Act.put _ (some 23) _ = _
          simp only [Act.put, List.setIfInBounds_toArray, List.set_cons_zero, List.set_cons_succ, i64_w, i32_w]
          rfl
        refine one_ (i := 10) (N := some 27) (lb_ 31 2047) rfl rfl (one_of HT_.out (by kernel_rfl)) (by decide) (fun K hK => ?_)
        refine goes_ Try.func11 (by kernel_rfl) rfl #[.slice A6 p1.length c6, .slice A0 n c0] (by rfl) rfl rfl (by (try simp only [List.map_toArray, List.map_cons, List.map_nil]); first | done | rfl) ?_
        with_reducible refine (H2.out _ _ _ HC6.out HL6.out (Kd.C_below HR0.out HB.out)).mono ?_
        rintro e W10 ⟨rfl, hb⟩
        refine ⟨_, rfl, ?_⟩
        have n1_ := Aside0.mk (below_step HB.out hb)
        clear HB hb HC6 HL6
        have HB := n1_
        clear n1_
        refine hK.out _ _ trivial (fun hHeld => ?_)
        clear hK K
        refine norm_ (a' := ?_) ?_ ?_
        rotate_left
        · show Act.put _ (some 27) _ = _
          simp only [Act.put, List.setIfInBounds_toArray, List.set_cons_zero, List.set_cons_succ, i64_w, i32_w]
          rfl
        refine pure_ (i := 11) (N := some 28) (v := ?_) (a' := ?_) (lb_ 31 4095) rfl rfl (any_of HT_.out (by kernel_rfl)) (fun _ _ _ h => h) (Or.inl ⟨by rfl, ?_⟩) ?_ ?_; rotate_left
        · intro w'; go_simp; with_reducible rfl
        rotate_left
        · simp only [Act.put, List.setIfInBounds_toArray, List.set_cons_zero, List.set_cons_succ, i64_w, i32_w]; rfl
        refine pure_ (i := 12) (N := some 29) (v := ?_) (a' := ?_) (lb_ 31 8191) rfl rfl (any_of HT_.out (by kernel_rfl)) (fun _ _ _ h => h) (Or.inl ⟨by rfl, ?_⟩) ?_ ?_; rotate_left
        · intro w'; go_simp; with_reducible rfl
        rotate_left
        · simp only [Act.put, List.setIfInBounds_toArray, List.set_cons_zero, List.set_cons_succ, i64_w, i32_w]; rfl
        refine pure_ (i := 13) (N := some 30) (v := ?_) (a' := ?_) (lb_ 31 16383) rfl rfl (any_of HT_.out (by kernel_rfl)) (fun _ _ _ h => h) (Or.inl ⟨by rfl, ?_⟩) ?_ ?_; rotate_left
        · intro w'; go_simp; with_reducible rfl
        rotate_left
        · simp only [Act.put, List.setIfInBounds_toArray, List.set_cons_zero, List.set_cons_succ, i64_w, i32_w]; rfl
        refine pure_ (i := 15) (N := some 32) (v := ?_) (a' := ?_) (lb_ 31 49151) rfl rfl (any_of HT_.out (by kernel_rfl)) (fun _ _ _ h => h) (Or.inl ⟨by rfl, ?_⟩) ?_ ?_; rotate_left
        · intro w'; go_simp; with_reducible rfl
        rotate_left
        · simp only [Act.put, List.setIfInBounds_toArray, List.set_cons_zero, List.set_cons_succ, i64_w, i32_w]; rfl
        refine pure_ (i := 16) (N := some 33) (v := ?_) (a' := ?_) (lb_ 31 114687) rfl rfl (any_of HT_.out (by kernel_rfl)) (fun _ _ _ h => h) (Or.inl ⟨by rfl, ?_⟩) ?_ ?_; rotate_left
        · intro w'; go_simp; with_reducible rfl
        rotate_left
        · simp only [Act.put, List.setIfInBounds_toArray, List.set_cons_zero, List.set_cons_succ, i64_w, i32_w]; rfl
        refine pure_ (i := 18) (N := some 35) (v := ?_) (a' := ?_) (lb_ 31 376831) rfl rfl (any_of HT_.out (by kernel_rfl)) (fun _ _ _ h => h) (Or.inl ⟨by rfl, ?_⟩) ?_ ?_; rotate_left
        · intro w'; go_simp; with_reducible rfl
        rotate_left
        · simp only [Act.put, List.setIfInBounds_toArray, List.set_cons_zero, List.set_cons_succ, i64_w, i32_w]; rfl
        refine pure_ (i := 19) (N := some 36) (v := ?_) (a' := ?_) (lb_ 31 901119) rfl rfl (any_of HT_.out (by kernel_rfl)) (fun _ _ _ h => h) (Or.inl ⟨by rfl, ?_⟩) ?_ ?_; rotate_left
        · intro w'; go_simp; with_reducible rfl
        rotate_left
        · simp only [Act.put, List.setIfInBounds_toArray, List.set_cons_zero, List.set_cons_succ, i64_w, i32_w]; rfl
        refine pure_ (i := 20) (N := some 37) (v := ?_) (a' := ?_) (lb_ 31 1949695) rfl rfl (any_of HT_.out (by kernel_rfl)) (fun _ _ _ h => h) (Or.inl ⟨by rfl, ?_⟩) ?_ ?_; rotate_left
        · intro w'; go_simp; with_reducible rfl
        rotate_left
        · simp only [Act.put, List.setIfInBounds_toArray, List.set_cons_zero, List.set_cons_succ, i64_w, i32_w]; rfl
        refine one_ (i := 14) (N := some 31) (lb_ 31 1966079) rfl rfl (one_of HT_.out (by kernel_rfl)) (by decide) (fun K hK => ?_)
        refine value_ (w1 := ?_) (v := ?_) (by rfl) rfl ?_ ?_
        rotate_left 2
        · go_simp
          constructor
          · rfl
          · rfl
        have BK14 := Aside0.mk (blk_new W10 (.cells #[.slice none 0 0, .slice A0 l0.length c0, .slice none 0 0] 25))
        have n1_ := Aside0.mk (below_alloc HB.out (.cells #[.slice none 0 0, .slice A0 l0.length c0, .slice none 0 0] 25))
        clear HB
        have HB := n1_
        clear n1_
        generalize W10.alloc (.cells #[.slice none 0 0, .slice A0 l0.length c0, .slice none 0 0] 25) = W14 at BK14 HB ⊢
        generalize W10.heap.size = g14 at BK14 ⊢
        refine hK.out _ _ trivial (fun hHeld => ?_)
        clear hK K
        refine norm_ (a' := ?_) ?_ ?_
        rotate_left
        · show Act.put _ (some 31) _ = _
          simp only [Act.put, List.setIfInBounds_toArray, List.set_cons_zero, List.set_cons_succ, i64_w, i32_w]
          rfl
        refine one_ (i := 17) (N := some 34) (lb_ 31 2097151) rfl rfl (one_of HT_.out (by kernel_rfl)) (by decide) (fun K hK => ?_)
        refine goes_ Try.func10 (by kernel_rfl) rfl #[.slice (some ⟨g14, 0, none⟩) 3 3, .int .i64 (wrap64 a1)] (by rfl) rfl rfl (by (try simp only [List.map_toArray, List.map_cons, List.map_nil]); first | done | rfl) ?_
        with_reducible refine (H3.out _ _ BK14.out (Kd.C_below HR0.out HB.out)).mono ?_
        rintro e W17 ⟨A17, c17, rfl, hC17, hl17, hb⟩
        refine ⟨_, rfl, ?_⟩
        have HC17 := Aside0.mk hC17
        have HL17 := Aside0.mk hl17
        have n1_ := Aside0.mk (below_step HB.out hb)
        clear HB hb hC17 hl17
        have HB := n1_
        clear n1_
        refine hK.out _ _ trivial (fun hHeld => ?_)
        clear hK K
        refine norm_ (a' := ?_) ?_ ?_
        rotate_left
        · show Act.put _ (some 34) _ = _
          simp only [Act.put, List.setIfInBounds_toArray, List.set_cons_zero, List.set_cons_succ, i64_w, i32_w]
          rfl
        refine one_ (i := 21) (N := some 38) (lb_ 31 4194303) rfl rfl (one_of HT_.out (by kernel_rfl)) (by decide) (fun K hK => ?_)
        refine goes_ Try.func11 (by kernel_rfl) rfl #[.slice A17 p2.length c17, .slice A0 n c0] (by rfl) rfl rfl (by (try simp only [List.map_toArray, List.map_cons, List.map_nil]); first | done | rfl) ?_
        with_reducible refine (H4.out _ _ _ HC17.out HL17.out (Kd.C_below HR0.out HB.out)).mono ?_
        rintro e W21 ⟨rfl, hb⟩
        refine ⟨_, rfl, ?_⟩
        have n1_ := Aside0.mk (below_step HB.out hb)
        clear HB hb HC17 HL17
        have HB := n1_
        clear n1_
        refine hK.out _ _ trivial (fun hHeld => ?_)
        clear hK K
        refine norm_ (a' := ?_) ?_ ?_
        rotate_left
        · show Act.put _ (some 38) _ = _
          simp only [Act.put, List.setIfInBounds_toArray, List.set_cons_zero, List.set_cons_succ, i64_w, i32_w]
          rfl
        refine pure_ (i := 22) (N := some 39) (v := ?_) (a' := ?_) (lb_ 31 8388607) rfl rfl (any_of HT_.out (by kernel_rfl)) (fun _ _ _ h => h) (Or.inl ⟨by rfl, ?_⟩) ?_ ?_; rotate_left
        · intro w'; go_simp; with_reducible rfl
        rotate_left
        · simp only [Act.put, List.setIfInBounds_toArray, List.set_cons_zero, List.set_cons_succ, i64_w, i32_w]; rfl
        refine pure_ (i := 23) (N := some 40) (v := ?_) (a' := ?_) (lb_ 31 16777215) rfl rfl (any_of HT_.out (by kernel_rfl)) (fun _ _ _ h => h) (Or.inl ⟨by rfl, ?_⟩) ?_ ?_; rotate_left
        · intro w'; go_simp; with_reducible rfl
        rotate_left
        · simp only [Act.put, List.setIfInBounds_toArray, List.set_cons_zero, List.set_cons_succ, i64_w, i32_w]; rfl
        refine pure_ (i := 24) (N := some 41) (v := ?_) (a' := ?_) (lb_ 31 33554431) rfl rfl (any_of HT_.out (by kernel_rfl)) (fun _ _ _ h => h) (Or.inl ⟨by rfl, ?_⟩) ?_ ?_; rotate_left
        · intro w'; go_simp; with_reducible rfl
        rotate_left
        · simp only [Act.put, List.setIfInBounds_toArray, List.set_cons_zero, List.set_cons_succ, i64_w, i32_w]; rfl
        refine pure_ (i := 25) (N := some 42) (v := ?_) (a' := ?_) (lb_ 31 67108863) rfl rfl (any_of HT_.out (by kernel_rfl)) (fun _ _ _ h => h) (Or.inl ⟨by rfl, ?_⟩) ?_ ?_; rotate_left
        · intro w'; go_simp; with_reducible rfl
        rotate_left
        · simp only [Act.put, List.setIfInBounds_toArray, List.set_cons_zero, List.set_cons_succ, i64_w, i32_w]; rfl
        refine one_ (i := 26) (N := some 43) (lb_ 31 134217727) rfl rfl (one_of HT_.out (by kernel_rfl)) (by decide) (fun K hK => ?_)
        refine goes_ Try.func10 (by kernel_rfl) rfl #[.slice none 0 0, .int .i64 (wrap64 a1)] (by rfl) rfl rfl (by (try simp only [List.map_toArray, List.map_cons, List.map_nil]); first | done | rfl) ?_
        with_reducible refine (H5.out _).mono ?_
        rintro e W26 ⟨A26, c26, rfl, hC26, hl26, hb⟩
        refine ⟨_, rfl, ?_⟩
        have HC26 := Aside0.mk hC26
        have HL26 := Aside0.mk hl26
        have n1_ := Aside0.mk (below_step HB.out hb)
        clear HB hb hC26 hl26
        have HB := n1_
        clear n1_
        refine hK.out _ _ trivial (fun hHeld => ?_)
        clear hK K
        refine norm_ (a' := ?_) ?_ ?_
        rotate_left
        · show Act.put _ (some 43) _ = _
          simp only [Act.put, List.setIfInBounds_toArray, List.set_cons_zero, List.set_cons_succ, i64_w, i32_w]
          rfl
        refine pure_ (i := 27) (N := some 44) (v := ?_) (a' := ?_) (lb_ 31 268435455) rfl rfl (any_of HT_.out (by kernel_rfl)) (fun _ _ _ h => h) (Or.inl ⟨by rfl, ?_⟩) ?_ ?_; rotate_left
        · intro w'; go_simp; with_reducible rfl
        rotate_left
        · simp only [Act.put, List.setIfInBounds_toArray, List.set_cons_zero, List.set_cons_succ, i64_w, i32_w]; rfl
        refine pure_ (i := 28) (N := some 45) (v := ?_) (a' := ?_) (lb_ 31 536870911) rfl rfl (any_of HT_.out (by kernel_rfl)) (fun _ _ _ h => h) (Or.inl ⟨by rfl, ?_⟩) ?_ ?_; rotate_left
        · intro w'; go_simp; with_reducible rfl
        rotate_left
        · simp only [Act.put, List.setIfInBounds_toArray, List.set_cons_zero, List.set_cons_succ, i64_w, i32_w]; rfl
        refine pure_ (i := 29) (N := some 46) (v := ?_) (a' := ?_) (lb_ 31 1073741823) rfl rfl (any_of HT_.out (by kernel_rfl)) (fun _ _ _ h => h) (Or.inl ⟨by rfl, ?_⟩) ?_ ?_; rotate_left
        · intro w'; go_simp; with_reducible rfl
        rotate_left
        · simp only [Act.put, List.setIfInBounds_toArray, List.set_cons_zero, List.set_cons_succ, i64_w, i32_w]; rfl
        refine pure_ (i := 30) (N := some 4) (v := ?_) (a' := ?_) (lb_ 31 2147483647) rfl rfl (any_of HT_.out (by kernel_rfl)) (fun _ _ _ h => h) (Or.inl ⟨by rfl, ?_⟩) ?_ ?_; rotate_left
        · intro w'; go_simp; with_reducible rfl
        rotate_left
        · simp only [Act.put, List.setIfInBounds_toArray, List.set_cons_zero, List.set_cons_succ, i64_w, i32_w]; rfl
        refine done_ (done_of HT_.out (by kernel_rfl)) ?_
        go_wp2
        go_ret
        exact ⟨rfl, HB.out⟩
      · rw [if_neg hs] at h
        cases h
    · rw [if_neg hc] at h
      cases h


end Go.Proofs.Ytahifbdggbeajab.PMergeOne
