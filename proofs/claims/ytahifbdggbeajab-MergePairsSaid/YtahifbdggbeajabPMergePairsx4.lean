-- Written by a program of this session: a variant of the print that takes proofs by hand (wip/tools/mkprint.py)
import Derived.Test.YtahifbdggbeajabPMergePairsx0
import Derived.Test.YtahifbdggbeajabPMergePairsx2
import Derived.Test.YtahifbdggbeajabPMergePairsx3
namespace Go.Proofs.Ytahifbdggbeajab.PMergePairs
open Go.RowKit Go.Proofs.YtahifbdggbeajabW.PrintWords Go.Proofs.YtahifbdggbeajabW.PrintLast Go.Proofs.YtahifbdggbeajabW.PrintMore
attribute [local go_sem] max2_int min2_int max_two min_two max_three min_three max_four min_four   -- for this text's walks alone
set_option linter.unusedVariables false
set_option linter.unusedSimpArgs false

/-! ### corrieref17_Pairs: function 12 -/
mutual
def corrieref17_Pairs.l0 : Nat → Int → List (S32) → List (List (S32)) → Option ((List (S32)))
  | 0, _, _, _ => none
  | k + 1, x1, x5, x6 => if (x5.length : Int) < x1 then (corrieref17_Pairs.l1 k x1 x5 x6 (-1) 0) else (some x5)
def corrieref17_Pairs.l1 : Nat → Int → List (S32) → List (List (S32)) → Int → Int → Option ((List (S32)))
  | 0, _, _, _, _, _ => none
  | k + 1, x1, x5, x6, x7, x8 => if x8 < (x6.length : Int) then (if 0 ≤ x8 then (if ((rd_L2 x6 x8).length : Int) > 0 then (if x7 < 0 then (corrieref17_Pairs.l1 k x1 x5 x6 x8 (wrap64 (x8 + 1))) else (if 0 < ((rd_L2 x6 x8).length : Int) then (if 0 ≤ x7 then (if x7 < (x6.length : Int) then (if 0 < ((rd_L2 x6 x7).length : Int) then (if ((rd_T32 (rd_L2 x6 x8) 0).f0) < ((rd_T32 (rd_L2 x6 x7) 0).f0) then (corrieref17_Pairs.l1 k x1 x5 x6 x8 (wrap64 (x8 + 1))) else (corrieref17_Pairs.l1 k x1 x5 x6 x7 (wrap64 (x8 + 1)))) else (none)) else (none)) else (none)) else (none))) else (corrieref17_Pairs.l1 k x1 x5 x6 x7 (wrap64 (x8 + 1)))) else (none)) else (if x7 < 0 then (some x5) else (if 0 ≤ x7 then (if x7 < (x6.length : Int) then (if 0 < ((rd_L2 x6 x7).length : Int) then (if x5.length < 8796093022208 then (if 1 ≤ ((rd_L2 x6 x7).length : Int) then (corrieref17_Pairs.l0 k x1 (x5 ++ [(⟨(rd_T32 (rd_L2 x6 x7) 0).f0, (rd_T32 (rd_L2 x6 x7) 0).f1⟩ : S32)]) (x6.set (x7 : Int).toNat ((rd_L2 x6 x7).drop 1))) else (none)) else (none)) else (none)) else (none)) else (none)))
end
def corrieref17_Pairs.f (k : Nat) (l0 : List (List (S32))) (a1 : Int) : Option ((List (S32))) := (some (([] : List (List (S32))) : List (List (S32)))).bind fun y132 => (if y132.length + l0.length < 5864062014805 then (corrieref17_Pairs.l0 k a1 ([] : List (S32)) (y132 ++ l0)) else (none))
theorem corrieref17_Pairs.mono_l : ∀ k, (∀ y0 y1 y2, LeO (corrieref17_Pairs.l0 k y0 y1 y2) (corrieref17_Pairs.l0 (k + 1) y0 y1 y2)) ∧ (∀ y0 y1 y2 y3 y4, LeO (corrieref17_Pairs.l1 k y0 y1 y2 y3 y4) (corrieref17_Pairs.l1 (k + 1) y0 y1 y2 y3 y4))
  | 0 => ⟨fun _ _ _ r h => by simp [corrieref17_Pairs.l0] at h, fun _ _ _ _ _ r h => by simp [corrieref17_Pairs.l1] at h⟩
  | k + 1 => by
    obtain ⟨ih0, ih1⟩ := corrieref17_Pairs.mono_l k
    refine ⟨?_, ?_⟩
    · intro y0 y1 y2
      unfold corrieref17_Pairs.l0
      repeat' first
      | (with_reducible exact ih0 _ _ _)
      | (with_reducible exact ih1 _ _ _ _ _)
      | (with_reducible exact LeO.refl _)
      | (with_reducible exact LeO.none _)
      | (with_reducible refine LeO.ite ?_ ?_)
      | (with_reducible refine LeO.bind ?_ (fun _ => ?_))
      | exact ih0 _ _ _
      | exact ih1 _ _ _ _ _
      | exact LeO.none _
      | refine LeO.ite ?_ ?_
      | refine LeO.bind ?_ (fun _ => ?_)
    · intro y0 y1 y2 y3 y4
      unfold corrieref17_Pairs.l1
      repeat' first
      | (with_reducible exact ih0 _ _ _)
      | (with_reducible exact ih1 _ _ _ _ _)
      | (with_reducible exact LeO.refl _)
      | (with_reducible exact LeO.none _)
      | (with_reducible refine LeO.ite ?_ ?_)
      | (with_reducible refine LeO.bind ?_ (fun _ => ?_))
      | exact ih0 _ _ _
      | exact ih1 _ _ _ _ _
      | exact LeO.none _
      | refine LeO.ite ?_ ?_
      | refine LeO.bind ?_ (fun _ => ?_)
theorem corrieref17_Pairs.mono : ∀ a0 a1 k, LeO (corrieref17_Pairs.f k a0 a1) (corrieref17_Pairs.f (k + 1) a0 a1) := by
  intro a0 a1 k
  obtain ⟨ih0, ih1⟩ := corrieref17_Pairs.mono_l k
  unfold corrieref17_Pairs.f
  repeat' first
      | (with_reducible exact ih0 _ _ _)
      | (with_reducible exact ih1 _ _ _ _ _)
      | (with_reducible exact LeO.refl _)
      | (with_reducible exact LeO.none _)
      | (with_reducible refine LeO.ite ?_ ?_)
      | (with_reducible refine LeO.bind ?_ (fun _ => ?_))
      | exact ih0 _ _ _
      | exact ih1 _ _ _ _ _
      | exact LeO.none _
      | refine LeO.ite ?_ ?_
      | refine LeO.bind ?_ (fun _ => ?_)
set_option maxHeartbeats 8000000 in
set_option maxRecDepth 100000 in
theorem corrieref17_Pairs.calls (k : Nat) (P0_ : Nat → Prop) (A0 : Option Addr) (c0 : Nat) (l0 : List (List (S32))) (a1 : Int) (r : List (S32)) (w : World) (hs0 : Kd.V (Kd.slice 32 k32) 25 w w.heap.size (fun k_ => P0_ k_) (.slice A0 l0.length c0) l0) (h : corrieref17_Pairs.f k l0 a1 = some r) :
    Calls Try.prog 12 #[.slice A0 l0.length c0, .int .i64 a1] w fun e w' => ∃ v0_ : Value, e = .returned (v0_) ∧ Kd.R k32 32 w' w.heap.size (fun k_ => (w.heap.size ≤ k_)) v0_ r ∧ Below w.heap.size w w' := by
  have hu32 := Try.underlying32
  have HO0 := Aside0.mk (show Kd.V (Kd.slice 32 k32) 25 w w.heap.size (fun k_ => (P0_ k_ ∨ w.heap.size ≤ k_)) (.slice A0 l0.length c0) l0 from Kd.V_mono hs0 (fun k_ hk => .inl hk))
  have HB := Aside0.mk (Below.refl w.heap.size w)
  have H : ((some (([] : List (List (S32))) : List (List (S32)))).bind fun y132 => (if y132.length + l0.length < 5864062014805 then (corrieref17_Pairs.l0 k a1 ([] : List (S32)) (y132 ++ l0)) else (none))) = some r := h
  clear h
  obtain ⟨y132, hy132⟩ : ∃ y_ : List (List (S32)), y_ = (([] : List (List (S32)))) := ⟨_, rfl⟩
  replace H : (if y132.length + l0.length < 5864062014805 then (corrieref17_Pairs.l0 k a1 ([] : List (S32)) (y132 ++ l0)) else (none)) = some r := by first | (rw [hy132]; with_reducible exact H) | (have H2_ := (Option.bind_some _ _).symm.trans H; rw [hy132]; with_reducible exact H2_) | (have H2_ := (Option.bind_some _ _).symm.trans H; with_reducible exact H2_) | with_reducible exact H | (rw [hy132]; exact H) | exact H
  have Ny132 := Aside0.mk hy132
  clear hy132
  by_cases c3 : y132.length + l0.length < 5864062014805
  · rw [if_pos c3] at H
    have LMc3 := Aside0.mk c3
    clear c3
    obtain ⟨y135, hy135⟩ : ∃ y_ : List (List (S32)), y_ = (y132 ++ l0) := ⟨_, rfl⟩
    replace H : (corrieref17_Pairs.l0 k a1 ([] : List (S32)) y135) = some r := by first | (rw [hy135]; with_reducible exact H) | (have H2_ := (Option.bind_some _ _).symm.trans H; rw [hy135]; with_reducible exact H2_) | (have H2_ := (Option.bind_some _ _).symm.trans H; with_reducible exact H2_) | with_reducible exact H | (rw [hy135]; exact H) | exact H
    have Ny135 := Aside0.mk hy135
    clear hy135
    have H' := Aside0.mk H
    clear H
    go_enter Try.func12, Try.ntmps12
    go_wp2_with (first | ((with_reducible refine gate_dst (N := 9) rfl ?_); refine Kd.N_lit (Kd.slice 32 k32) _ 25 ?hg (N' := 9) ?hd (xs := ([] : List (List (S32)))) (inner := []) (ok := (fun k_ => (P0_ k_ ∨ w.heap.size ≤ k_))) (okp := (fun k_ => (P0_ k_ ∨ w.heap.size ≤ k_))) ?hr ?hp (fun _ hk => hk) ((show ∀ k_, w.heap.size ≤ k_ → (fun k_ => (P0_ k_ ∨ w.heap.size ≤ k_)) k_ from fun k_ hk => (.inr (Nat.le_trans (below_size (by repeat (first | (with_reducible first | exact HB.out | apply below_alloc | apply pw_below_drewN | apply below_drew1) | exact HB.out))) hk))) _ (Nat.le_refl _)) (Below.refl _ _) (Nat.le_refl _) (by simp) ?_; (case hd => rfl); (case hg => rfl); (case hr => first | (go_simp; done) | (go_simp; rfl)); (case hp => exact (Reps.none _ _)); intro v133 w4 ho5 hb hg_ hnew_; clear hg_ hnew_; (first | rw [← Ny132.out] at ho5 | (simp only [Int.reduceToNat] at ho5; rw [← Ny132.out] at ho5)); have n0_ := Aside0.mk (Kd.V_elder' (by (with_reducible repeat (first | apply Kd.V_alloc | apply Kd.V_drewN | apply Kd.V_drew)); exact HO0.out) (Kd.N_base ho5) hb); have n1_ := Aside0.mk (Kd.N_lower ho5 (below_size (by repeat (first | (with_reducible first | exact HB.out | apply below_alloc | apply pw_below_drewN | apply below_drew1) | exact HB.out)))); have n2_ := Aside0.mk (below_step (by repeat (first | (with_reducible first | exact HB.out | apply below_alloc | apply pw_below_drewN | apply below_drew1) | exact HB.out)) hb); clear HO0; clear HB; have HO0 := n0_; have HO134 := n1_; have HB := n2_; clear n0_ n1_ n2_; clear hb ho5) | ((with_reducible refine gate_builtin (b := .append) (xs := #[.tmp 9, .tmp 10]) rfl ?_); at_builtin; refine Kd.N_append_rows (Kd.slice 32 k32) (w0 := w) w.heap.size rfl (.tmp 9) (.tmp 10) 22 25 (.slice none 0 0) 24 rfl Try.underlying22 info25 rfl (by decide) (by omega) v133 y132 l0 _ _ _ (fun k_ => (P0_ k_ ∨ w.heap.size ≤ k_)) (fun k_ => ((fun k_ => (P0_ k_ ∨ w.heap.size ≤ k_))) k_ ∧ some k_ ≠ (v133 : Value).ownBlock) rfl rfl ?aO ?aR (fun _ hk => hk) ?aF ?aB ?aS ?aL ?_; (case aR => exact (by skip; exact Kd.V_F (Kd.V_mono (ok' := (fun k_ => ((fun k_ => (P0_ k_ ∨ w.heap.size ≤ k_))) k_ ∧ some k_ ≠ (v133 : Value).ownBlock)) (HO0.out) (fun k_ hk => ⟨hk.1, hk.2⟩)))); (case aB => exact (by repeat (first | (with_reducible first | exact HB.out | apply below_alloc | apply pw_below_drewN | apply below_drew1) | exact HB.out))); (case aF => exact (fun k_ hk => (.inr (Nat.le_trans (below_size (by repeat (first | (with_reducible first | exact HB.out | apply below_alloc | apply pw_below_drewN | apply below_drew1) | exact HB.out))) hk)))); (case aO => exact (by (with_reducible repeat (first | apply Kd.N_alloc | apply Kd.N_drewN | apply Kd.N_drew)); exact HO134.out)); (case aS => exact (below_size (by repeat (first | (with_reducible first | exact HB.out | apply below_alloc | apply pw_below_drewN | apply below_drew1) | exact HB.out)))); (case aL => have := LMc3.out; omega); intro v136 w6 ho hb hg hat; rw [← Ny135.out] at ho; have n0_ := Aside0.mk (Kd.V_afterv (ok := (fun k_ => (P0_ k_ ∨ w.heap.size ≤ k_))) (by (with_reducible repeat (first | apply Kd.V_alloc | apply Kd.V_drewN | apply Kd.V_drew)); exact HO0.out) hg hat); have n1_ := Aside0.mk (hb); have n2_ := Aside0.mk (ho); clear HO0; clear HB; clear HO134; have HO0 := n0_; have HB := n1_; have HO137 := n2_; clear n0_ n1_ n2_; clear ho hb hg hat))
    repeat (go_quiet (first | ((with_reducible refine gate_dst (N := 9) rfl ?_); refine Kd.N_lit (Kd.slice 32 k32) _ 25 ?hg (N' := 9) ?hd (xs := ([] : List (List (S32)))) (inner := []) (ok := (fun k_ => (P0_ k_ ∨ w.heap.size ≤ k_))) (okp := (fun k_ => (P0_ k_ ∨ w.heap.size ≤ k_))) ?hr ?hp (fun _ hk => hk) ((show ∀ k_, w.heap.size ≤ k_ → (fun k_ => (P0_ k_ ∨ w.heap.size ≤ k_)) k_ from fun k_ hk => (.inr (Nat.le_trans (below_size (by repeat (first | (with_reducible first | exact HB.out | apply below_alloc | apply pw_below_drewN | apply below_drew1) | exact HB.out))) hk))) _ (Nat.le_refl _)) (Below.refl _ _) (Nat.le_refl _) (by simp) ?_; (case hd => rfl); (case hg => rfl); (case hr => first | (go_simp; done) | (go_simp; rfl)); (case hp => exact (Reps.none _ _)); intro v133 w4 ho5 hb hg_ hnew_; clear hg_ hnew_; (first | rw [← Ny132.out] at ho5 | (simp only [Int.reduceToNat] at ho5; rw [← Ny132.out] at ho5)); have n0_ := Aside0.mk (Kd.V_elder' (by (with_reducible repeat (first | apply Kd.V_alloc | apply Kd.V_drewN | apply Kd.V_drew)); exact HO0.out) (Kd.N_base ho5) hb); have n1_ := Aside0.mk (Kd.N_lower ho5 (below_size (by repeat (first | (with_reducible first | exact HB.out | apply below_alloc | apply pw_below_drewN | apply below_drew1) | exact HB.out)))); have n2_ := Aside0.mk (below_step (by repeat (first | (with_reducible first | exact HB.out | apply below_alloc | apply pw_below_drewN | apply below_drew1) | exact HB.out)) hb); clear HO0; clear HB; have HO0 := n0_; have HO134 := n1_; have HB := n2_; clear n0_ n1_ n2_; clear hb ho5) | ((with_reducible refine gate_builtin (b := .append) (xs := #[.tmp 9, .tmp 10]) rfl ?_); at_builtin; refine Kd.N_append_rows (Kd.slice 32 k32) (w0 := w) w.heap.size rfl (.tmp 9) (.tmp 10) 22 25 (.slice none 0 0) 24 rfl Try.underlying22 info25 rfl (by decide) (by omega) v133 y132 l0 _ _ _ (fun k_ => (P0_ k_ ∨ w.heap.size ≤ k_)) (fun k_ => ((fun k_ => (P0_ k_ ∨ w.heap.size ≤ k_))) k_ ∧ some k_ ≠ (v133 : Value).ownBlock) rfl rfl ?aO ?aR (fun _ hk => hk) ?aF ?aB ?aS ?aL ?_; (case aR => exact (by skip; exact Kd.V_F (Kd.V_mono (ok' := (fun k_ => ((fun k_ => (P0_ k_ ∨ w.heap.size ≤ k_))) k_ ∧ some k_ ≠ (v133 : Value).ownBlock)) (HO0.out) (fun k_ hk => ⟨hk.1, hk.2⟩)))); (case aB => exact (by repeat (first | (with_reducible first | exact HB.out | apply below_alloc | apply pw_below_drewN | apply below_drew1) | exact HB.out))); (case aF => exact (fun k_ hk => (.inr (Nat.le_trans (below_size (by repeat (first | (with_reducible first | exact HB.out | apply below_alloc | apply pw_below_drewN | apply below_drew1) | exact HB.out))) hk)))); (case aO => exact (by (with_reducible repeat (first | apply Kd.N_alloc | apply Kd.N_drewN | apply Kd.N_drew)); exact HO134.out)); (case aS => exact (below_size (by repeat (first | (with_reducible first | exact HB.out | apply below_alloc | apply pw_below_drewN | apply below_drew1) | exact HB.out)))); (case aL => have := LMc3.out; omega); intro v136 w6 ho hb hg hat; rw [← Ny135.out] at ho; have n0_ := Aside0.mk (Kd.V_afterv (ok := (fun k_ => (P0_ k_ ∨ w.heap.size ≤ k_))) (by (with_reducible repeat (first | apply Kd.V_alloc | apply Kd.V_drewN | apply Kd.V_drew)); exact HO0.out) hg hat); have n1_ := Aside0.mk (hb); have n2_ := Aside0.mk (ho); clear HO0; clear HB; clear HO134; have HO0 := n0_; have HB := n1_; have HO137 := n2_; clear n0_ n1_ n2_; clear ho hb hg hat)); try go_wp2_with (first | ((with_reducible refine gate_dst (N := 9) rfl ?_); refine Kd.N_lit (Kd.slice 32 k32) _ 25 ?hg (N' := 9) ?hd (xs := ([] : List (List (S32)))) (inner := []) (ok := (fun k_ => (P0_ k_ ∨ w.heap.size ≤ k_))) (okp := (fun k_ => (P0_ k_ ∨ w.heap.size ≤ k_))) ?hr ?hp (fun _ hk => hk) ((show ∀ k_, w.heap.size ≤ k_ → (fun k_ => (P0_ k_ ∨ w.heap.size ≤ k_)) k_ from fun k_ hk => (.inr (Nat.le_trans (below_size (by repeat (first | (with_reducible first | exact HB.out | apply below_alloc | apply pw_below_drewN | apply below_drew1) | exact HB.out))) hk))) _ (Nat.le_refl _)) (Below.refl _ _) (Nat.le_refl _) (by simp) ?_; (case hd => rfl); (case hg => rfl); (case hr => first | (go_simp; done) | (go_simp; rfl)); (case hp => exact (Reps.none _ _)); intro v133 w4 ho5 hb hg_ hnew_; clear hg_ hnew_; (first | rw [← Ny132.out] at ho5 | (simp only [Int.reduceToNat] at ho5; rw [← Ny132.out] at ho5)); have n0_ := Aside0.mk (Kd.V_elder' (by (with_reducible repeat (first | apply Kd.V_alloc | apply Kd.V_drewN | apply Kd.V_drew)); exact HO0.out) (Kd.N_base ho5) hb); have n1_ := Aside0.mk (Kd.N_lower ho5 (below_size (by repeat (first | (with_reducible first | exact HB.out | apply below_alloc | apply pw_below_drewN | apply below_drew1) | exact HB.out)))); have n2_ := Aside0.mk (below_step (by repeat (first | (with_reducible first | exact HB.out | apply below_alloc | apply pw_below_drewN | apply below_drew1) | exact HB.out)) hb); clear HO0; clear HB; have HO0 := n0_; have HO134 := n1_; have HB := n2_; clear n0_ n1_ n2_; clear hb ho5) | ((with_reducible refine gate_builtin (b := .append) (xs := #[.tmp 9, .tmp 10]) rfl ?_); at_builtin; refine Kd.N_append_rows (Kd.slice 32 k32) (w0 := w) w.heap.size rfl (.tmp 9) (.tmp 10) 22 25 (.slice none 0 0) 24 rfl Try.underlying22 info25 rfl (by decide) (by omega) v133 y132 l0 _ _ _ (fun k_ => (P0_ k_ ∨ w.heap.size ≤ k_)) (fun k_ => ((fun k_ => (P0_ k_ ∨ w.heap.size ≤ k_))) k_ ∧ some k_ ≠ (v133 : Value).ownBlock) rfl rfl ?aO ?aR (fun _ hk => hk) ?aF ?aB ?aS ?aL ?_; (case aR => exact (by skip; exact Kd.V_F (Kd.V_mono (ok' := (fun k_ => ((fun k_ => (P0_ k_ ∨ w.heap.size ≤ k_))) k_ ∧ some k_ ≠ (v133 : Value).ownBlock)) (HO0.out) (fun k_ hk => ⟨hk.1, hk.2⟩)))); (case aB => exact (by repeat (first | (with_reducible first | exact HB.out | apply below_alloc | apply pw_below_drewN | apply below_drew1) | exact HB.out))); (case aF => exact (fun k_ hk => (.inr (Nat.le_trans (below_size (by repeat (first | (with_reducible first | exact HB.out | apply below_alloc | apply pw_below_drewN | apply below_drew1) | exact HB.out))) hk)))); (case aO => exact (by (with_reducible repeat (first | apply Kd.N_alloc | apply Kd.N_drewN | apply Kd.N_drew)); exact HO134.out)); (case aS => exact (below_size (by repeat (first | (with_reducible first | exact HB.out | apply below_alloc | apply pw_below_drewN | apply below_drew1) | exact HB.out)))); (case aL => have := LMc3.out; omega); intro v136 w6 ho hb hg hat; rw [← Ny135.out] at ho; have n0_ := Aside0.mk (Kd.V_afterv (ok := (fun k_ => (P0_ k_ ∨ w.heap.size ≤ k_))) (by (with_reducible repeat (first | apply Kd.V_alloc | apply Kd.V_drewN | apply Kd.V_drew)); exact HO0.out) hg hat); have n1_ := Aside0.mk (hb); have n2_ := Aside0.mk (ho); clear HO0; clear HB; clear HO134; have HO0 := n0_; have HB := n1_; have HO137 := n2_; clear n0_ n1_ n2_; clear ho hb hg hat)))
    go_loopg [5] k (fun kq v5 w' => ∃ (x5_1 : List (S32)) (x6_1 : List (List (S32))), Aside0 (corrieref17_Pairs.l0 kq a1 x5_1 x6_1 = some r) ∧ Aside0 (kq ≤ k) ∧ Aside0 (Kd.R k32 32 w' w.heap.size (fun k_ => (w.heap.size ≤ k_)) v5 x5_1) ∧ Aside0 (Kd.N (Kd.slice 32 k32) 25 w' w.heap.size (fun k_ => (P0_ k_ ∨ w.heap.size ≤ k_) ∧ some k_ ≠ (v5 : Value).ownBlock) v136 x6_1) ∧ Aside0 (Below w.heap.size w w'))
    case atStart => exact ⟨(([] : List (S32))), (y135), H', ⟨Nat.le_refl _⟩, ⟨by first | exact Kd.R_nil _ _ _ _ _ | exact Kd.N_nil _ _ _ _ _ | exact Kd.V_nil _ _ _ _ _ | exact Kd.Q_nil _ _ _ _ _ | exact Kd.S_nil _ _ _ _ _⟩, ⟨by (with_reducible repeat (first | apply Kd.N_alloc | apply Kd.N_drewN | apply Kd.N_drew)); exact Kd.N_mono HO137.out (fun _ hk => ⟨hk, (by simp [Value.ownBlock])⟩)⟩, ⟨by repeat (first | (with_reducible first | exact HB.out | apply below_alloc | apply pw_below_drewN | apply below_drew1) | exact HB.out)⟩⟩
    case round =>
      clear H'
      try clear c1
      try clear p2
      try clear c3
      obtain ⟨x5_1, x6_1, HA, HK1, HO_5, HO_6, HB⟩ := hrel
      cases gk with
      | zero => exact absurd HA.out (by simp [corrieref17_Pairs.l0])
      | succ k1 =>
        have H := HA.out
        clear HA
        simp only [corrieref17_Pairs.l0] at H
        by_cases c7 : (x5_1.length : Int) < a1
        · rw [if_pos c7] at H
          have c7b0 : decide ((x5_1.length : Int) < a1) = true := decide_eq_true c7
          clear c7
          have H' := Aside0.mk H
          clear H
          obtain ⟨Ao8, co8, eo8⟩ := Kd.R_slice HO_5.out
          subst eo8
          go_wp2
          repeat (go_quiet (fail); try go_wp2)
          go_loopg [7, 8] k1 (fun kq v7 v8 w' => ∃ (x7_2 : Int) (x8_2 : Int), v7 = .int .i64 x7_2 ∧ v8 = .int .i64 x8_2 ∧ Aside0 (corrieref17_Pairs.l1 kq a1 x5_1 x6_1 x7_2 x8_2 = some r) ∧ Aside0 (kq ≤ k1) ∧ Aside0 (Kd.R k32 32 w' w.heap.size (fun k_ => (w.heap.size ≤ k_)) (.slice Ao8 x5_1.length co8) x5_1) ∧ Aside0 (Kd.N (Kd.slice 32 k32) 25 w' w.heap.size (fun k_ => (P0_ k_ ∨ w.heap.size ≤ k_) ∧ some k_ ≠ ((.slice Ao8 x5_1.length co8) : Value).ownBlock) v136 x6_1) ∧ Aside0 (Below w.heap.size w w'))
          case atStart => exact ⟨((-1)), (0), (by first | rfl | (simp; done) | (simp [*]; done)), (by first | rfl | (simp; done) | (simp [*]; done)), H', ⟨Nat.le_refl _⟩, ⟨by (with_reducible repeat (first | apply Kd.R_alloc | apply Kd.R_drewN | apply Kd.R_drew)); exact HO_5.out⟩, ⟨by (with_reducible repeat (first | apply Kd.N_alloc | apply Kd.N_drewN | apply Kd.N_drew)); exact HO_6.out⟩, ⟨by repeat (first | (with_reducible first | exact HB.out | apply below_alloc | apply pw_below_drewN | apply below_drew1) | exact HB.out)⟩⟩
          case round =>
            clear H'
            try clear c1
            try clear p2
            try clear c3
            try clear c7
            try clear c7b0
            try clear p2
            obtain ⟨x7_2, x8_2, rfl, rfl, HA, HK2, HO_5, HO_6, HB⟩ := hrel
            cases gk with
            | zero => exact absurd HA.out (by simp [corrieref17_Pairs.l1])
            | succ k2 =>
              have H := HA.out
              clear HA
              simp only [corrieref17_Pairs.l1] at H
              by_cases c9 : x8_2 < (x6_1.length : Int)
              · rw [if_pos c9] at H
                have c9b0 : decide (x8_2 < (x6_1.length : Int)) = true := decide_eq_true c9
                clear c9
                by_cases c10 : 0 ≤ x8_2
                · rw [if_pos c10] at H
                  have c10b0 : decide (0 ≤ x8_2) = true := decide_eq_true c10
                  clear c10
                  by_cases c11 : ((rd_L2 x6_1 x8_2).length : Int) > 0
                  · rw [if_pos c11] at H
                    have c11b0 : decide (0 < ((rd_L2 x6_1 x8_2).length : Int)) = true := decide_eq_true c11
                    have c11b1 : decide (0 < (rd_L2 x6_1 x8_2).length) = true := decide_eq_true (by omega)
                    clear c11
                    by_cases c12 : x7_2 < 0
                    · rw [if_pos c12] at H
                      have c12b0 : decide (x7_2 < 0) = true := decide_eq_true c12
                      clear c12
                      have H' := Aside0.mk H
                      clear H
                      obtain ⟨Ao13, co13, eo13⟩ := Kd.N_slice HO_6.out
                      subst eo13
                      have p138 : 0 ≤ (x8_2 : Int) := of_decide_eq_true (by first | (with_reducible assumption) | assumption)
                      have q138 : x8_2 < (x6_1.length : Int) := of_decide_eq_true (by first | (with_reducible assumption) | assumption)
                      obtain ⟨ad138, A138_0, c138_0, e138, hx138_0, hl138_0, hi138_0⟩ := at_L2 (Kd.N_reads' HO_6.out).2.2 x8_2 p138 q138
                      cases e138
                      obtain ⟨ce138, hce138, hMe138, hcc138⟩ := Kd.N_get HO_6.out [] x8_2 p138 (by first | exact q138 | exact of_decide_eq_true (by first | (with_reducible assumption) | assumption) | (have e_ := (Kd.N_reads' HO_6.out).1; omega))
                      obtain ⟨ua138_0, uc138_0, rfl, ul138_0, ge138_0⟩ := Kd.FK_slice_open hMe138
                      have hv138_0 := hcc138 0 _ rfl
                      rw [Nat.add_zero, show ((Kd.slice 32 k32)).sz = 1 from rfl, Nat.mul_one] at hv138_0
                      replace hv138_0 := Option.some.inj (hv138_0.symm.trans hx138_0)
                      injection hv138_0 with hva_ hvn_ hvc_
                      rw [hva_] at ge138_0
                      rw [hvc_] at ul138_0
                      have HL138_0 := Aside0.mk (show Kd.V k32 32 _ w.heap.size _ _ (rd_L2 x6_1 x8_2) from Kd.V_mk ul138_0 ge138_0)
                      clear hva_ hvn_ hvc_ ge138_0 ul138_0
                      clear hcc138 hce138
                      have HR138_0 := Aside0.mk hi138_0
                      have HC138_0 := Aside0.mk hl138_0
                      clear hi138_0 hl138_0
                      replace p138 := eq_true p138
                      replace q138 := eq_true q138
                      go_wp2
                      repeat (go_quiet (fail); try go_wp2)
                      go_roundg k2
                      case measure => have := HK1.out; have := HK2.out; omega
                      case rel => exact ⟨(x8_2), (wrap64 (x8_2 + 1)), (by first | rfl | (simp; done) | (simp [*]; done)), (by first | rfl | (simp; done) | (simp [*]; done)), H', ⟨by have := HK1.out; have := HK2.out; omega⟩, ⟨by (with_reducible repeat (first | apply Kd.R_alloc | apply Kd.R_drewN | apply Kd.R_drew)); exact HO_5.out⟩, ⟨by (with_reducible repeat (first | apply Kd.N_alloc | apply Kd.N_drewN | apply Kd.N_drew)); exact HO_6.out⟩, ⟨by repeat (first | (with_reducible first | exact HB.out | apply below_alloc | apply pw_below_drewN | apply below_drew1) | exact HB.out)⟩⟩
                    · rw [if_neg c12] at H
                      have c12b0 : decide (x7_2 < 0) = false := decide_eq_false c12
                      clear c12
                      by_cases c14 : 0 < ((rd_L2 x6_1 x8_2).length : Int)
                      · rw [if_pos c14] at H
                        have c14b0 : decide (0 < ((rd_L2 x6_1 x8_2).length : Int)) = true := decide_eq_true c14
                        have c14b1 : decide (0 < (rd_L2 x6_1 x8_2).length) = true := decide_eq_true (by omega)
                        clear c14
                        by_cases c15 : 0 ≤ x7_2
                        · rw [if_pos c15] at H
                          have c15b0 : decide (0 ≤ x7_2) = true := decide_eq_true c15
                          clear c15
                          by_cases c16 : x7_2 < (x6_1.length : Int)
                          · rw [if_pos c16] at H
                            have c16b0 : decide (x7_2 < (x6_1.length : Int)) = true := decide_eq_true c16
                            clear c16
                            by_cases c17 : 0 < ((rd_L2 x6_1 x7_2).length : Int)
                            · rw [if_pos c17] at H
                              have c17b0 : decide (0 < ((rd_L2 x6_1 x7_2).length : Int)) = true := decide_eq_true c17
                              have c17b1 : decide (0 < (rd_L2 x6_1 x7_2).length) = true := decide_eq_true (by omega)
                              clear c17
                              by_cases c18 : ((rd_T32 (rd_L2 x6_1 x8_2) 0).f0) < ((rd_T32 (rd_L2 x6_1 x7_2) 0).f0)
                              · rw [if_pos c18] at H
                                have c18b0 : decide (((rd_T32 (rd_L2 x6_1 x8_2) 0).f0) < ((rd_T32 (rd_L2 x6_1 x7_2) 0).f0)) = true := decide_eq_true c18
                                clear c18
                                have H' := Aside0.mk H
                                clear H
                                obtain ⟨Ao19, co19, eo19⟩ := Kd.N_slice HO_6.out
                                subst eo19
                                have p138 : 0 ≤ (x8_2 : Int) := of_decide_eq_true (by first | (with_reducible assumption) | assumption)
                                have q138 : x8_2 < (x6_1.length : Int) := of_decide_eq_true (by first | (with_reducible assumption) | assumption)
                                obtain ⟨ad138, A138_0, c138_0, e138, hx138_0, hl138_0, hi138_0⟩ := at_L2 (Kd.N_reads' HO_6.out).2.2 x8_2 p138 q138
                                cases e138
                                obtain ⟨ce138, hce138, hMe138, hcc138⟩ := Kd.N_get HO_6.out [] x8_2 p138 (by first | exact q138 | exact of_decide_eq_true (by first | (with_reducible assumption) | assumption) | (have e_ := (Kd.N_reads' HO_6.out).1; omega))
                                obtain ⟨ua138_0, uc138_0, rfl, ul138_0, ge138_0⟩ := Kd.FK_slice_open hMe138
                                have hv138_0 := hcc138 0 _ rfl
                                rw [Nat.add_zero, show ((Kd.slice 32 k32)).sz = 1 from rfl, Nat.mul_one] at hv138_0
                                replace hv138_0 := Option.some.inj (hv138_0.symm.trans hx138_0)
                                injection hv138_0 with hva_ hvn_ hvc_
                                rw [hva_] at ge138_0
                                rw [hvc_] at ul138_0
                                have HL138_0 := Aside0.mk (show Kd.V k32 32 _ w.heap.size _ _ (rd_L2 x6_1 x8_2) from Kd.V_mk ul138_0 ge138_0)
                                clear hva_ hvn_ hvc_ ge138_0 ul138_0
                                clear hcc138 hce138
                                have HR138_0 := Aside0.mk hi138_0
                                have HC138_0 := Aside0.mk hl138_0
                                clear hi138_0 hl138_0
                                replace p138 := eq_true p138
                                replace q138 := eq_true q138
                                have p139 : 0 ≤ (x8_2 : Int) := of_decide_eq_true (by first | (with_reducible assumption) | assumption)
                                have q139 : x8_2 < (x6_1.length : Int) := of_decide_eq_true (by first | (with_reducible assumption) | assumption)
                                obtain ⟨ad139, A139_0, c139_0, e139, hx139_0, hl139_0, hi139_0⟩ := at_L2 (Kd.N_reads' HO_6.out).2.2 x8_2 p139 q139
                                obtain rfl : ad138 = ad139 := (by injection e139)
                                obtain ⟨ce139, hce139, hMe139, hcc139⟩ := Kd.N_get HO_6.out [] x8_2 p139 (by first | exact q139 | exact of_decide_eq_true (by first | (with_reducible assumption) | assumption) | (have e_ := (Kd.N_reads' HO_6.out).1; omega))
                                obtain ⟨ua139_0, uc139_0, rfl, ul139_0, ge139_0⟩ := Kd.FK_slice_open hMe139
                                have hv139_0 := hcc139 0 _ rfl
                                rw [Nat.add_zero, show ((Kd.slice 32 k32)).sz = 1 from rfl, Nat.mul_one] at hv139_0
                                replace hv139_0 := Option.some.inj (hv139_0.symm.trans hx139_0)
                                injection hv139_0 with hva_ hvn_ hvc_
                                rw [hva_] at ge139_0
                                rw [hvc_] at ul139_0
                                have HL139_0 := Aside0.mk (show Kd.V k32 32 _ w.heap.size _ _ (rd_L2 x6_1 x8_2) from Kd.V_mk ul139_0 ge139_0)
                                clear hva_ hvn_ hvc_ ge139_0 ul139_0
                                clear hcc139 hce139
                                have HR139_0 := Aside0.mk hi139_0
                                have HC139_0 := Aside0.mk hl139_0
                                clear hi139_0 hl139_0
                                replace p139 := eq_true p139
                                replace q139 := eq_true q139
                                have ea_ := Option.some.inj (hx138_0.symm.trans hx139_0)
                                injection ea_ with ea_ en_ ec_
                                subst ea_
                                subst ec_
                                clear en_
                                have p140 : 0 ≤ (0 : Int) := (by omega)
                                have q140 : 0 < ((rd_L2 x6_1 x8_2).length : Int) := of_decide_eq_true (by first | (with_reducible assumption) | assumption)
                                obtain ⟨ad140, e140, hx140_0, hx140_1⟩ := at_T32 (by repeat (first | (with_reducible exact HR139_0.out) | (with_reducible refine Kd.C_alloc ?_ _) | (with_reducible refine Kd.C_drewN ?_ _) | (with_reducible refine Kd.C_drew ?_) | exact HR139_0.out)) 0 p140 q140
                                cases e140
                                have qi140 : (0 < (rd_L2 x6_1 x8_2).length) = True := eq_true (by omega)
                                (try rw [show ((0 : Int)).toNat = 0 from rfl] at hx140_0)
                                (try rw [show 0 * 2 = 0 from rfl] at hx140_0)
                                (try rw [Addr.add_zero'] at hx140_0)
                                (try rw [show ((0 : Int)).toNat = 0 from rfl] at hx140_1)
                                (try rw [show 0 * 2 = 0 from rfl] at hx140_1)
                                (try rw [Addr.add_zero'] at hx140_1)
                                replace p140 := eq_true p140
                                replace q140 := eq_true q140
                                have p141 : 0 ≤ (x7_2 : Int) := of_decide_eq_true (by first | (with_reducible assumption) | assumption)
                                have q141 : x7_2 < (x6_1.length : Int) := of_decide_eq_true (by first | (with_reducible assumption) | assumption)
                                obtain ⟨ad141, A141_0, c141_0, e141, hx141_0, hl141_0, hi141_0⟩ := at_L2 (Kd.N_reads' HO_6.out).2.2 x7_2 p141 q141
                                obtain rfl : ad138 = ad141 := (by injection e141)
                                obtain ⟨ce141, hce141, hMe141, hcc141⟩ := Kd.N_get HO_6.out [] x7_2 p141 (by first | exact q141 | exact of_decide_eq_true (by first | (with_reducible assumption) | assumption) | (have e_ := (Kd.N_reads' HO_6.out).1; omega))
                                obtain ⟨ua141_0, uc141_0, rfl, ul141_0, ge141_0⟩ := Kd.FK_slice_open hMe141
                                have hv141_0 := hcc141 0 _ rfl
                                rw [Nat.add_zero, show ((Kd.slice 32 k32)).sz = 1 from rfl, Nat.mul_one] at hv141_0
                                replace hv141_0 := Option.some.inj (hv141_0.symm.trans hx141_0)
                                injection hv141_0 with hva_ hvn_ hvc_
                                rw [hva_] at ge141_0
                                rw [hvc_] at ul141_0
                                have HL141_0 := Aside0.mk (show Kd.V k32 32 _ w.heap.size _ _ (rd_L2 x6_1 x7_2) from Kd.V_mk ul141_0 ge141_0)
                                clear hva_ hvn_ hvc_ ge141_0 ul141_0
                                clear hcc141 hce141
                                have HR141_0 := Aside0.mk hi141_0
                                have HC141_0 := Aside0.mk hl141_0
                                clear hi141_0 hl141_0
                                replace p141 := eq_true p141
                                replace q141 := eq_true q141
                                have p142 : 0 ≤ (0 : Int) := (by omega)
                                have q142 : 0 < ((rd_L2 x6_1 x7_2).length : Int) := of_decide_eq_true (by first | (with_reducible assumption) | assumption)
                                obtain ⟨ad142, e142, hx142_0, hx142_1⟩ := at_T32 (by repeat (first | (with_reducible exact HR141_0.out) | (with_reducible refine Kd.C_alloc ?_ _) | (with_reducible refine Kd.C_drewN ?_ _) | (with_reducible refine Kd.C_drew ?_) | exact HR141_0.out)) 0 p142 q142
                                cases e142
                                have qi142 : (0 < (rd_L2 x6_1 x7_2).length) = True := eq_true (by omega)
                                (try rw [show ((0 : Int)).toNat = 0 from rfl] at hx142_0)
                                (try rw [show 0 * 2 = 0 from rfl] at hx142_0)
                                (try rw [Addr.add_zero'] at hx142_0)
                                (try rw [show ((0 : Int)).toNat = 0 from rfl] at hx142_1)
                                (try rw [show 0 * 2 = 0 from rfl] at hx142_1)
                                (try rw [Addr.add_zero'] at hx142_1)
                                replace p142 := eq_true p142
                                replace q142 := eq_true q142
                                go_wp2
                                repeat (go_quiet (fail); try go_wp2)
                                go_roundg k2
                                case measure => have := HK1.out; have := HK2.out; omega
                                case rel => exact ⟨(x8_2), (wrap64 (x8_2 + 1)), (by first | rfl | (simp; done) | (simp [*]; done)), (by first | rfl | (simp; done) | (simp [*]; done)), H', ⟨by have := HK1.out; have := HK2.out; omega⟩, ⟨by (with_reducible repeat (first | apply Kd.R_alloc | apply Kd.R_drewN | apply Kd.R_drew)); exact HO_5.out⟩, ⟨by (with_reducible repeat (first | apply Kd.N_alloc | apply Kd.N_drewN | apply Kd.N_drew)); exact HO_6.out⟩, ⟨by repeat (first | (with_reducible first | exact HB.out | apply below_alloc | apply pw_below_drewN | apply below_drew1) | exact HB.out)⟩⟩
                              · rw [if_neg c18] at H
                                have c18b0 : decide (((rd_T32 (rd_L2 x6_1 x8_2) 0).f0) < ((rd_T32 (rd_L2 x6_1 x7_2) 0).f0)) = false := decide_eq_false c18
                                clear c18
                                have H' := Aside0.mk H
                                clear H
                                obtain ⟨Ao20, co20, eo20⟩ := Kd.N_slice HO_6.out
                                subst eo20
                                have p138 : 0 ≤ (x8_2 : Int) := of_decide_eq_true (by first | (with_reducible assumption) | assumption)
                                have q138 : x8_2 < (x6_1.length : Int) := of_decide_eq_true (by first | (with_reducible assumption) | assumption)
                                obtain ⟨ad138, A138_0, c138_0, e138, hx138_0, hl138_0, hi138_0⟩ := at_L2 (Kd.N_reads' HO_6.out).2.2 x8_2 p138 q138
                                cases e138
                                obtain ⟨ce138, hce138, hMe138, hcc138⟩ := Kd.N_get HO_6.out [] x8_2 p138 (by first | exact q138 | exact of_decide_eq_true (by first | (with_reducible assumption) | assumption) | (have e_ := (Kd.N_reads' HO_6.out).1; omega))
                                obtain ⟨ua138_0, uc138_0, rfl, ul138_0, ge138_0⟩ := Kd.FK_slice_open hMe138
                                have hv138_0 := hcc138 0 _ rfl
                                rw [Nat.add_zero, show ((Kd.slice 32 k32)).sz = 1 from rfl, Nat.mul_one] at hv138_0
                                replace hv138_0 := Option.some.inj (hv138_0.symm.trans hx138_0)
                                injection hv138_0 with hva_ hvn_ hvc_
                                rw [hva_] at ge138_0
                                rw [hvc_] at ul138_0
                                have HL138_0 := Aside0.mk (show Kd.V k32 32 _ w.heap.size _ _ (rd_L2 x6_1 x8_2) from Kd.V_mk ul138_0 ge138_0)
                                clear hva_ hvn_ hvc_ ge138_0 ul138_0
                                clear hcc138 hce138
                                have HR138_0 := Aside0.mk hi138_0
                                have HC138_0 := Aside0.mk hl138_0
                                clear hi138_0 hl138_0
                                replace p138 := eq_true p138
                                replace q138 := eq_true q138
                                have p139 : 0 ≤ (x8_2 : Int) := of_decide_eq_true (by first | (with_reducible assumption) | assumption)
                                have q139 : x8_2 < (x6_1.length : Int) := of_decide_eq_true (by first | (with_reducible assumption) | assumption)
                                obtain ⟨ad139, A139_0, c139_0, e139, hx139_0, hl139_0, hi139_0⟩ := at_L2 (Kd.N_reads' HO_6.out).2.2 x8_2 p139 q139
                                obtain rfl : ad138 = ad139 := (by injection e139)
                                obtain ⟨ce139, hce139, hMe139, hcc139⟩ := Kd.N_get HO_6.out [] x8_2 p139 (by first | exact q139 | exact of_decide_eq_true (by first | (with_reducible assumption) | assumption) | (have e_ := (Kd.N_reads' HO_6.out).1; omega))
                                obtain ⟨ua139_0, uc139_0, rfl, ul139_0, ge139_0⟩ := Kd.FK_slice_open hMe139
                                have hv139_0 := hcc139 0 _ rfl
                                rw [Nat.add_zero, show ((Kd.slice 32 k32)).sz = 1 from rfl, Nat.mul_one] at hv139_0
                                replace hv139_0 := Option.some.inj (hv139_0.symm.trans hx139_0)
                                injection hv139_0 with hva_ hvn_ hvc_
                                rw [hva_] at ge139_0
                                rw [hvc_] at ul139_0
                                have HL139_0 := Aside0.mk (show Kd.V k32 32 _ w.heap.size _ _ (rd_L2 x6_1 x8_2) from Kd.V_mk ul139_0 ge139_0)
                                clear hva_ hvn_ hvc_ ge139_0 ul139_0
                                clear hcc139 hce139
                                have HR139_0 := Aside0.mk hi139_0
                                have HC139_0 := Aside0.mk hl139_0
                                clear hi139_0 hl139_0
                                replace p139 := eq_true p139
                                replace q139 := eq_true q139
                                have ea_ := Option.some.inj (hx138_0.symm.trans hx139_0)
                                injection ea_ with ea_ en_ ec_
                                subst ea_
                                subst ec_
                                clear en_
                                have p140 : 0 ≤ (0 : Int) := (by omega)
                                have q140 : 0 < ((rd_L2 x6_1 x8_2).length : Int) := of_decide_eq_true (by first | (with_reducible assumption) | assumption)
                                obtain ⟨ad140, e140, hx140_0, hx140_1⟩ := at_T32 (by repeat (first | (with_reducible exact HR139_0.out) | (with_reducible refine Kd.C_alloc ?_ _) | (with_reducible refine Kd.C_drewN ?_ _) | (with_reducible refine Kd.C_drew ?_) | exact HR139_0.out)) 0 p140 q140
                                cases e140
                                have qi140 : (0 < (rd_L2 x6_1 x8_2).length) = True := eq_true (by omega)
                                (try rw [show ((0 : Int)).toNat = 0 from rfl] at hx140_0)
                                (try rw [show 0 * 2 = 0 from rfl] at hx140_0)
                                (try rw [Addr.add_zero'] at hx140_0)
                                (try rw [show ((0 : Int)).toNat = 0 from rfl] at hx140_1)
                                (try rw [show 0 * 2 = 0 from rfl] at hx140_1)
                                (try rw [Addr.add_zero'] at hx140_1)
                                replace p140 := eq_true p140
                                replace q140 := eq_true q140
                                have p141 : 0 ≤ (x7_2 : Int) := of_decide_eq_true (by first | (with_reducible assumption) | assumption)
                                have q141 : x7_2 < (x6_1.length : Int) := of_decide_eq_true (by first | (with_reducible assumption) | assumption)
                                obtain ⟨ad141, A141_0, c141_0, e141, hx141_0, hl141_0, hi141_0⟩ := at_L2 (Kd.N_reads' HO_6.out).2.2 x7_2 p141 q141
                                obtain rfl : ad138 = ad141 := (by injection e141)
                                obtain ⟨ce141, hce141, hMe141, hcc141⟩ := Kd.N_get HO_6.out [] x7_2 p141 (by first | exact q141 | exact of_decide_eq_true (by first | (with_reducible assumption) | assumption) | (have e_ := (Kd.N_reads' HO_6.out).1; omega))
                                obtain ⟨ua141_0, uc141_0, rfl, ul141_0, ge141_0⟩ := Kd.FK_slice_open hMe141
                                have hv141_0 := hcc141 0 _ rfl
                                rw [Nat.add_zero, show ((Kd.slice 32 k32)).sz = 1 from rfl, Nat.mul_one] at hv141_0
                                replace hv141_0 := Option.some.inj (hv141_0.symm.trans hx141_0)
                                injection hv141_0 with hva_ hvn_ hvc_
                                rw [hva_] at ge141_0
                                rw [hvc_] at ul141_0
                                have HL141_0 := Aside0.mk (show Kd.V k32 32 _ w.heap.size _ _ (rd_L2 x6_1 x7_2) from Kd.V_mk ul141_0 ge141_0)
                                clear hva_ hvn_ hvc_ ge141_0 ul141_0
                                clear hcc141 hce141
                                have HR141_0 := Aside0.mk hi141_0
                                have HC141_0 := Aside0.mk hl141_0
                                clear hi141_0 hl141_0
                                replace p141 := eq_true p141
                                replace q141 := eq_true q141
                                have p142 : 0 ≤ (0 : Int) := (by omega)
                                have q142 : 0 < ((rd_L2 x6_1 x7_2).length : Int) := of_decide_eq_true (by first | (with_reducible assumption) | assumption)
                                obtain ⟨ad142, e142, hx142_0, hx142_1⟩ := at_T32 (by repeat (first | (with_reducible exact HR141_0.out) | (with_reducible refine Kd.C_alloc ?_ _) | (with_reducible refine Kd.C_drewN ?_ _) | (with_reducible refine Kd.C_drew ?_) | exact HR141_0.out)) 0 p142 q142
                                cases e142
                                have qi142 : (0 < (rd_L2 x6_1 x7_2).length) = True := eq_true (by omega)
                                (try rw [show ((0 : Int)).toNat = 0 from rfl] at hx142_0)
                                (try rw [show 0 * 2 = 0 from rfl] at hx142_0)
                                (try rw [Addr.add_zero'] at hx142_0)
                                (try rw [show ((0 : Int)).toNat = 0 from rfl] at hx142_1)
                                (try rw [show 0 * 2 = 0 from rfl] at hx142_1)
                                (try rw [Addr.add_zero'] at hx142_1)
                                replace p142 := eq_true p142
                                replace q142 := eq_true q142
                                go_wp2
                                repeat (go_quiet (fail); try go_wp2)
                                go_roundg k2
                                case measure => have := HK1.out; have := HK2.out; omega
                                case rel => exact ⟨(x7_2), (wrap64 (x8_2 + 1)), (by first | rfl | (simp; done) | (simp [*]; done)), (by first | rfl | (simp; done) | (simp [*]; done)), H', ⟨by have := HK1.out; have := HK2.out; omega⟩, ⟨by (with_reducible repeat (first | apply Kd.R_alloc | apply Kd.R_drewN | apply Kd.R_drew)); exact HO_5.out⟩, ⟨by (with_reducible repeat (first | apply Kd.N_alloc | apply Kd.N_drewN | apply Kd.N_drew)); exact HO_6.out⟩, ⟨by repeat (first | (with_reducible first | exact HB.out | apply below_alloc | apply pw_below_drewN | apply below_drew1) | exact HB.out)⟩⟩
                            · rw [if_neg c17] at H
                              exact absurd H (by simp)
                          · rw [if_neg c16] at H
                            exact absurd H (by simp)
                        · rw [if_neg c15] at H
                          exact absurd H (by simp)
                      · rw [if_neg c14] at H
                        exact absurd H (by simp)
                  · rw [if_neg c11] at H
                    have c11b0 : decide (0 < ((rd_L2 x6_1 x8_2).length : Int)) = false := decide_eq_false c11
                    have c11b1 : decide (0 < (rd_L2 x6_1 x8_2).length) = false := decide_eq_false (by omega)
                    clear c11
                    have H' := Aside0.mk H
                    clear H
                    obtain ⟨Ao21, co21, eo21⟩ := Kd.N_slice HO_6.out
                    subst eo21
                    have p138 : 0 ≤ (x8_2 : Int) := of_decide_eq_true (by first | (with_reducible assumption) | assumption)
                    have q138 : x8_2 < (x6_1.length : Int) := of_decide_eq_true (by first | (with_reducible assumption) | assumption)
                    obtain ⟨ad138, A138_0, c138_0, e138, hx138_0, hl138_0, hi138_0⟩ := at_L2 (Kd.N_reads' HO_6.out).2.2 x8_2 p138 q138
                    cases e138
                    obtain ⟨ce138, hce138, hMe138, hcc138⟩ := Kd.N_get HO_6.out [] x8_2 p138 (by first | exact q138 | exact of_decide_eq_true (by first | (with_reducible assumption) | assumption) | (have e_ := (Kd.N_reads' HO_6.out).1; omega))
                    obtain ⟨ua138_0, uc138_0, rfl, ul138_0, ge138_0⟩ := Kd.FK_slice_open hMe138
                    have hv138_0 := hcc138 0 _ rfl
                    rw [Nat.add_zero, show ((Kd.slice 32 k32)).sz = 1 from rfl, Nat.mul_one] at hv138_0
                    replace hv138_0 := Option.some.inj (hv138_0.symm.trans hx138_0)
                    injection hv138_0 with hva_ hvn_ hvc_
                    rw [hva_] at ge138_0
                    rw [hvc_] at ul138_0
                    have HL138_0 := Aside0.mk (show Kd.V k32 32 _ w.heap.size _ _ (rd_L2 x6_1 x8_2) from Kd.V_mk ul138_0 ge138_0)
                    clear hva_ hvn_ hvc_ ge138_0 ul138_0
                    clear hcc138 hce138
                    have HR138_0 := Aside0.mk hi138_0
                    have HC138_0 := Aside0.mk hl138_0
                    clear hi138_0 hl138_0
                    replace p138 := eq_true p138
                    replace q138 := eq_true q138
                    go_wp2
                    repeat (go_quiet (fail); try go_wp2)
                    go_roundg k2
                    case measure => have := HK1.out; have := HK2.out; omega
                    case rel => exact ⟨(x7_2), (wrap64 (x8_2 + 1)), (by first | rfl | (simp; done) | (simp [*]; done)), (by first | rfl | (simp; done) | (simp [*]; done)), H', ⟨by have := HK1.out; have := HK2.out; omega⟩, ⟨by (with_reducible repeat (first | apply Kd.R_alloc | apply Kd.R_drewN | apply Kd.R_drew)); exact HO_5.out⟩, ⟨by (with_reducible repeat (first | apply Kd.N_alloc | apply Kd.N_drewN | apply Kd.N_drew)); exact HO_6.out⟩, ⟨by repeat (first | (with_reducible first | exact HB.out | apply below_alloc | apply pw_below_drewN | apply below_drew1) | exact HB.out)⟩⟩
                · rw [if_neg c10] at H
                  exact absurd H (by simp)
              · rw [if_neg c9] at H
                have c9b0 : decide (x8_2 < (x6_1.length : Int)) = false := decide_eq_false c9
                clear c9
                by_cases c22 : x7_2 < 0
                · rw [if_pos c22] at H
                  have c22b0 : decide (x7_2 < 0) = true := decide_eq_true c22
                  clear c22
                  obtain rfl := Option.some.inj H
                  obtain ⟨Ao23, co23, eo23⟩ := Kd.N_slice HO_6.out
                  subst eo23
                  go_wp2
                  repeat (go_quiet (fail); try go_wp2)
                  go_ret
                  exact ⟨_, by first | rfl | (simp [errW_none, errW_some] <;> rfl) | (simp [*, errW_none, errW_some] <;> rfl), by (with_reducible repeat (first | apply Kd.R_alloc | apply Kd.R_drewN | apply Kd.R_drew)); exact HO_5.out, by repeat (first | (with_reducible first | exact HB.out | apply below_alloc | apply pw_below_drewN | apply below_drew1) | exact HB.out)⟩
                · rw [if_neg c22] at H
                  have c22b0 : decide (x7_2 < 0) = false := decide_eq_false c22
                  clear c22
                  by_cases c24 : 0 ≤ x7_2
                  · rw [if_pos c24] at H
                    have c24b0 : decide (0 ≤ x7_2) = true := decide_eq_true c24
                    clear c24
                    by_cases c25 : x7_2 < (x6_1.length : Int)
                    · rw [if_pos c25] at H
                      have c25b0 : decide (x7_2 < (x6_1.length : Int)) = true := decide_eq_true c25
                      clear c25
                      by_cases c26 : 0 < ((rd_L2 x6_1 x7_2).length : Int)
                      · rw [if_pos c26] at H
                        have c26b0 : decide (0 < ((rd_L2 x6_1 x7_2).length : Int)) = true := decide_eq_true c26
                        have c26b1 : decide (0 < (rd_L2 x6_1 x7_2).length) = true := decide_eq_true (by omega)
                        clear c26
                        by_cases c27 : x5_1.length < 8796093022208
                        · rw [if_pos c27] at H
                          have LMc27 := Aside0.mk c27
                          clear c27
                          obtain ⟨y145, hy145⟩ : ∃ y_ : List (S32), y_ = (x5_1 ++ [(⟨(rd_T32 (rd_L2 x6_1 x7_2) 0).f0, (rd_T32 (rd_L2 x6_1 x7_2) 0).f1⟩ : S32)]) := ⟨_, rfl⟩
                          replace H : (if 1 ≤ ((rd_L2 x6_1 x7_2).length : Int) then (corrieref17_Pairs.l0 k2 a1 y145 (x6_1.set (x7_2 : Int).toNat ((rd_L2 x6_1 x7_2).drop 1))) else (none)) = some r := by first | (rw [hy145]; with_reducible exact H) | (have H2_ := (Option.bind_some _ _).symm.trans H; rw [hy145]; with_reducible exact H2_) | (have H2_ := (Option.bind_some _ _).symm.trans H; with_reducible exact H2_) | with_reducible exact H | (rw [hy145]; exact H) | exact H
                          have Ny145 := Aside0.mk hy145
                          clear hy145
                          by_cases c28 : 1 ≤ ((rd_L2 x6_1 x7_2).length : Int)
                          · rw [if_pos c28] at H
                            have c28b0 := eq_true c28
                            have c28b1 : decide (1 ≤ ((rd_L2 x6_1 x7_2).length : Int)) = true := decide_eq_true c28
                            clear c28
                            obtain ⟨y149, hy149⟩ : ∃ y_ : List (S32), y_ = ((rd_L2 x6_1 x7_2).drop 1) := ⟨_, rfl⟩
                            replace H : (corrieref17_Pairs.l0 k2 a1 y145 (x6_1.set (x7_2 : Int).toNat y149)) = some r := by first | (rw [hy149]; with_reducible exact H) | (have H2_ := (Option.bind_some _ _).symm.trans H; rw [hy149]; with_reducible exact H2_) | (have H2_ := (Option.bind_some _ _).symm.trans H; with_reducible exact H2_) | with_reducible exact H | (rw [hy149]; exact H) | exact H
                            have Ny149 := Aside0.mk hy149
                            clear hy149
                            obtain ⟨y154, hy154⟩ : ∃ y_ : List (List (S32)), y_ = (x6_1.set (x7_2 : Int).toNat y149) := ⟨_, rfl⟩
                            replace H : (corrieref17_Pairs.l0 k2 a1 y145 y154) = some r := by first | (rw [hy154]; with_reducible exact H) | (have H2_ := (Option.bind_some _ _).symm.trans H; rw [hy154]; with_reducible exact H2_) | (have H2_ := (Option.bind_some _ _).symm.trans H; with_reducible exact H2_) | with_reducible exact H | (rw [hy154]; exact H) | exact H
                            have Ny154 := Aside0.mk hy154
                            clear hy154
                            have H' := Aside0.mk H
                            clear H
                            obtain ⟨Ao30, co30, eo30⟩ := Kd.N_slice HO_6.out
                            subst eo30
                            have p143 : 0 ≤ (x7_2 : Int) := of_decide_eq_true (by first | (with_reducible assumption) | assumption)
                            have q143 : x7_2 < (x6_1.length : Int) := of_decide_eq_true (by first | (with_reducible assumption) | assumption)
                            obtain ⟨ad143, A143_0, c143_0, e143, hx143_0, hl143_0, hi143_0⟩ := at_L2 (Kd.N_reads' HO_6.out).2.2 x7_2 p143 q143
                            cases e143
                            obtain ⟨ce143, hce143, hMe143, hcc143⟩ := Kd.N_get HO_6.out [] x7_2 p143 (by first | exact q143 | exact of_decide_eq_true (by first | (with_reducible assumption) | assumption) | (have e_ := (Kd.N_reads' HO_6.out).1; omega))
                            obtain ⟨ua143_0, uc143_0, rfl, ul143_0, ge143_0⟩ := Kd.FK_slice_open hMe143
                            have hv143_0 := hcc143 0 _ rfl
                            rw [Nat.add_zero, show ((Kd.slice 32 k32)).sz = 1 from rfl, Nat.mul_one] at hv143_0
                            replace hv143_0 := Option.some.inj (hv143_0.symm.trans hx143_0)
                            injection hv143_0 with hva_ hvn_ hvc_
                            rw [hva_] at ge143_0
                            rw [hvc_] at ul143_0
                            have HL143_0 := Aside0.mk (show Kd.V k32 32 _ w.heap.size _ _ (rd_L2 x6_1 x7_2) from Kd.V_mk ul143_0 ge143_0)
                            clear hva_ hvn_ hvc_ ge143_0 ul143_0
                            clear hcc143 hce143
                            have HR143_0 := Aside0.mk hi143_0
                            have HC143_0 := Aside0.mk hl143_0
                            clear hi143_0 hl143_0
                            replace p143 := eq_true p143
                            replace q143 := eq_true q143
                            have p144 : 0 ≤ (0 : Int) := (by omega)
                            have q144 : 0 < ((rd_L2 x6_1 x7_2).length : Int) := of_decide_eq_true (by first | (with_reducible assumption) | assumption)
                            obtain ⟨ad144, e144, hx144_0, hx144_1⟩ := at_T32 (by repeat (first | (with_reducible exact HR143_0.out) | (with_reducible refine Kd.C_alloc ?_ _) | (with_reducible refine Kd.C_drewN ?_ _) | (with_reducible refine Kd.C_drew ?_) | exact HR143_0.out)) 0 p144 q144
                            cases e144
                            have qi144 : (0 < (rd_L2 x6_1 x7_2).length) = True := eq_true (by omega)
                            (try rw [show ((0 : Int)).toNat = 0 from rfl] at hx144_0)
                            (try rw [show 0 * 2 = 0 from rfl] at hx144_0)
                            (try rw [Addr.add_zero'] at hx144_0)
                            (try rw [show ((0 : Int)).toNat = 0 from rfl] at hx144_1)
                            (try rw [show 0 * 2 = 0 from rfl] at hx144_1)
                            (try rw [Addr.add_zero'] at hx144_1)
                            replace p144 := eq_true p144
                            replace q144 := eq_true q144
                            go_wp2_with (first | ((with_reducible refine gate_builtin (b := .append) (xs := #[.tmp 53, .tmp 60]) rfl ?_); at_builtin; refine Kd.R_append k32 (w0 := w) w.heap.size rfl (.tmp 53) (.tmp 60) 25 32 (.agg #[(.int .u64 0), (.int .u64 0)]) 16 rfl Try.underlying25 info32 rfl (by decide) (by omega) (.slice Ao8 x5_1.length co8) x5_1 (⟨(rd_T32 (rd_L2 x6_1 x7_2) 0).f0, (rd_T32 (rd_L2 x6_1 x7_2) 0).f1⟩ : S32) [.int .u64 ((rd_T32 (rd_L2 x6_1 x7_2) 0).f0), .int .u64 ((rd_T32 (rd_L2 x6_1 x7_2) 0).f1)] (fun k_ => (w.heap.size ≤ k_)) (fun _ => False) rfl rfl ?aP (fun _ hk => hk.elim) ?aF ?aO ?aB ?aS ?aL ?_; (case aP => exact k32_mkM _ _ _ (⟨(rd_T32 (rd_L2 x6_1 x7_2) 0).f0, (rd_T32 (rd_L2 x6_1 x7_2) 0).f1⟩ : S32)); (case aB => exact (by repeat (first | (with_reducible first | exact HB.out | apply below_alloc | apply pw_below_drewN | apply below_drew1) | exact HB.out))); (case aF => exact (fun k_ hk => (Nat.le_trans (below_size (by repeat (first | (with_reducible first | exact HB.out | apply below_alloc | apply pw_below_drewN | apply below_drew1) | exact HB.out))) hk))); (case aO => exact (by (with_reducible repeat (first | apply Kd.R_alloc | apply Kd.R_drewN | apply Kd.R_drew)); exact HO_5.out)); (case aS => exact (below_size (by repeat (first | (with_reducible first | exact HB.out | apply below_alloc | apply pw_below_drewN | apply below_drew1) | exact HB.out)))); (case aL => have := LMc27.out; omega); intro v146 w31 ho hb hg hat; rw [← Ny145.out] at ho; have n0_ := Aside0.mk (Kd.N_afterv (ok := (fun k_ => (P0_ k_ ∨ w.heap.size ≤ k_))) (by (with_reducible repeat (first | apply Kd.N_alloc | apply Kd.N_drewN | apply Kd.N_drew)); exact HO_6.out) hg hat); have n1_ := Aside0.mk (Kd.V_afterv (ok := (fun k_ => (P0_ k_ ∨ w.heap.size ≤ k_) ∧ some k_ ≠ (.slice (some ad143) x6_1.length co30 : Value).ownBlock)) (by (with_reducible repeat (first | apply Kd.V_alloc | apply Kd.V_drewN | apply Kd.V_drew)); exact Kd.V_mono HL143_0.out (fun _ hk => ⟨⟨hk.1.1, hk.2⟩, hk.1.2⟩)) hg hat); have n2_ := Aside0.mk (hb); have n3_ := Aside0.mk (ho); clear HO_6; clear HL143_0; clear HB; clear HO_5; have HO_6 := n0_; have HL143_0 := n1_; have HB := n2_; have HO147 := n3_; clear n0_ n1_ n2_ n3_; clear ho hb hg hat; have p148 : 0 ≤ (x7_2 : Int) := of_decide_eq_true (by first | (with_reducible assumption) | assumption); have q148 : x7_2 < (x6_1.length : Int) := of_decide_eq_true (by first | (with_reducible assumption) | assumption); obtain ⟨ad148, A148_0, c148_0, e148, hx148_0, hl148_0, hi148_0⟩ := at_L2 (Kd.N_reads' HO_6.out).2.2 x7_2 p148 q148; obtain rfl : ad143 = ad148 := (by injection e148); obtain ⟨ce148, hce148, hMe148, hcc148⟩ := Kd.N_get HO_6.out [] x7_2 p148 (by first | exact q148 | exact of_decide_eq_true (by first | (with_reducible assumption) | assumption) | (have e_ := (Kd.N_reads' HO_6.out).1; omega)); obtain ⟨ua148_0, uc148_0, rfl, ul148_0, ge148_0⟩ := Kd.FK_slice_open hMe148; have hv148_0 := hcc148 0 _ rfl; rw [Nat.add_zero, show ((Kd.slice 32 k32)).sz = 1 from rfl, Nat.mul_one] at hv148_0; replace hv148_0 := Option.some.inj (hv148_0.symm.trans hx148_0); injection hv148_0 with hva_ hvn_ hvc_; rw [hva_] at ge148_0; rw [hvc_] at ul148_0; have HL148_0 := Aside0.mk (show Kd.V k32 32 _ w.heap.size _ _ (rd_L2 x6_1 x7_2) from Kd.V_mk ul148_0 ge148_0); clear hva_ hvn_ hvc_ ge148_0 ul148_0; clear hcc148 hce148; have HR148_0 := Aside0.mk hi148_0; have HC148_0 := Aside0.mk hl148_0; clear hi148_0 hl148_0; replace p148 := eq_true p148; replace q148 := eq_true q148; have q32 : (1 : Int) ≤ (((rd_L2 x6_1 x7_2).length : Int) : Int) := of_decide_eq_true (by first | (with_reducible assumption) | assumption); obtain ⟨i032, hi032, _, hsz32, _⟩ := info_parts info32; have hroom32 : (rd_L2 x6_1 x7_2).length ≤ c148_0 := HC148_0.out; have hC32 : Kd.F k32 _ _ A148_0 (rd_L2 x6_1 x7_2).length (rd_L2 x6_1 x7_2) := (Kd.V_at (base := w.heap.size) HL148_0.out).2.2; have hcut32 := cut_from (P := Try.prog) 25 32 .i64 Try.underlying25 hi032 2 hsz32 A148_0 (rd_L2 x6_1 x7_2).length c148_0 1 (by omega) q32; have hr32 := Kd.F_cut (m := (1 : Int).toNat) (c := c148_0) hC32 (by omega) hroom32; obtain ⟨A32, hA32⟩ : ∃ A1, A1 = (if c148_0 = (1 : Int).toNat then A148_0 else (A148_0 : Option Addr).map (·.add ((1 : Int).toNat * 2))) := ⟨_, rfl⟩; obtain ⟨c32, hc32⟩ : ∃ c1, c1 = c148_0 - (1 : Int).toNat := ⟨_, rfl⟩; have hy32 : y149.length = (rd_L2 x6_1 x7_2).length - (1 : Int).toNat := (by rw [Ny149.out, List.length_drop] <;> omega); rw [show (rd_L2 x6_1 x7_2).drop (1 : Int).toNat = y149 from Ny149.out.symm] at hr32; replace hr32 : Kd.F k32 _ _ A32 y149.length y149 := (by rw [hA32]; exact hr32); rw [← hy32, ← hA32, ← hc32] at hcut32; have HO153 := Aside0.mk (show Kd.V k32 32 _ w.heap.size _ (.slice A32 y149.length c32) y149 from Kd.V_mk (by rw [hy32, hc32]; exact Nat.sub_le_sub_right hroom32 _) hr32); have HC153 := Aside0.mk (show y149.length ≤ c32 from by rw [hy32, hc32]; exact Nat.sub_le_sub_right hroom32 _); clear hr32 hC32 hroom32 hi032 hsz32 hc32; have KY32 := Aside0.mk hy32; have KA32 := Aside0.mk hA32; clear hy32 hA32; replace q32 := eq_true q32; have p29 : 0 ≤ (x7_2 : Int) := of_decide_eq_true (by first | (with_reducible assumption) | assumption); have q29 : (x7_2 : Int) < ((x6_1.length : Int) : Int) := of_decide_eq_true (by first | (with_reducible assumption) | assumption); obtain ⟨go29, co29, eo29, gb29, gl29, cl29, HG29⟩ := Kd.N_form HO_6.out (by omega); (first | cases eo29 | (injection eo29 with ea_ en_ ec_; (first | subst ea_ | (injection ea_ with ea_; subst ea_)); subst ec_; clear en_)); have GB29 := Aside0.mk gb29; have GG29 := Aside0.mk HG29; clear gb29 gl29 HG29; (first | simp only [add_plain] at hx143_0 | skip); (first | simp only [add_plain] at hx148_0 | skip); obtain ⟨ce29, hcl29, hM29, hcc29, hfr29⟩ := Kd.N_elem HO_6.out [] (x7_2 : Int) p29 q29; obtain ⟨ua29_0, uc29_0, rfl, ul29_0, ge29_0⟩ := Kd.FK_slice_open hM29; have hx29_0 := hcc29 0 _ rfl; have hf29_0 := hfr29 0; (try simp only [show ((Kd.slice 32 k32)).sz = 1 from rfl, Nat.mul_one, Nat.add_zero] at hx29_0); (try simp only [show ((Kd.slice 32 k32)).sz = 1 from rfl, Nat.mul_one, Nat.add_zero] at hf29_0); clear hcl29 hcc29 hfr29 hM29; replace p29 := eq_true p29; replace q29 := eq_true q29; have HX33 := Aside0.mk (show Kd.N (Kd.slice 32 k32) 25 w31 w.heap.size (fun k_ => (P0_ k_ ∨ w.heap.size ≤ k_) ∧ some k_ ≠ (v146 : Value).ownBlock) (.slice (some ⟨go29, 0, none⟩) x6_1.length co30) x6_1 from (by (with_reducible repeat (first | apply Kd.N_alloc | apply Kd.N_drewN | apply Kd.N_drew)); exact HO_6.out)); obtain ⟨ce33, hcl33, hM33, hcc33, hfr33⟩ := Kd.N_elem HX33.out [] (x7_2 : Int) (of_decide_eq_true (by first | (with_reducible assumption) | assumption)) (by have h_ : (x7_2 : Int) < ((x6_1.length : Int) : Int) := of_decide_eq_true (by first | (with_reducible assumption) | assumption); first | exact h_ | (have e_ := (Kd.N_reads' HO_6.out).1; omega) | simpa using h_); obtain ⟨ua33_0, uc33_0, rfl, ul33_0, ge33_0⟩ := Kd.FK_slice_open hM33; have HP33 := Kd.N_seg HX33.out (x7_2 : Int) (of_decide_eq_true (by first | (with_reducible assumption) | assumption)) (by have h_ : (x7_2 : Int) < ((x6_1.length : Int) : Int) := of_decide_eq_true (by first | (with_reducible assumption) | assumption); first | exact h_ | (have e_ := (Kd.N_reads' HO_6.out).1; omega) | simpa using h_) (seg := [.slice A32 y149.length c32]) (j := 0) hcl33 hcc33 (show 1 ≤ 1 from by decide) (x' := y149) (Kd.FK_slice_mk (Kd.V_reads' (Kd.V_mono (ok' := (fun k_ => ((fun k_ => (P0_ k_ ∨ w.heap.size ≤ k_) ∧ some k_ ≠ (v146 : Value).ownBlock)) k_ ∧ k_ ≠ go29)) (HO153.out) (fun k_ hk => ⟨⟨hk.1.1, hk.1.2⟩, fun e_ => (hk.2) (by rw [e_]; rfl)⟩))).2.1 (Kd.V_F (Kd.V_mono (ok' := (fun k_ => ((fun k_ => (P0_ k_ ∨ w.heap.size ≤ k_) ∧ some k_ ≠ (v146 : Value).ownBlock)) k_ ∧ k_ ≠ go29)) (HO153.out) (fun k_ hk => ⟨⟨hk.1.1, hk.1.2⟩, fun e_ => (hk.2) (by rw [e_]; rfl)⟩)))) (fun _ hk => hk); have hx33_0 := hcc33 0 _ rfl; (try simp only [show ((Kd.slice 32 k32)).sz = 1 from rfl, Nat.mul_one, Nat.add_zero] at hx33_0); have hf33_0 := hfr33 0; (try simp only [show ((Kd.slice 32 k32)).sz = 1 from rfl, Nat.mul_one, Nat.add_zero] at hf33_0); clear hcl33 hcc33 hfr33 hM33; (try simp only [show ((Kd.slice 32 k32)).sz = 1 from rfl, Nat.mul_one, Nat.add_zero] at HP33); (try simp only [show ((Kd.slice 32 k32)).sz = 1 from rfl, Nat.mul_one, Nat.add_zero] at HP33)) | ((with_reducible refine gate_store (t := 25) (p := 69) rfl ?_); (try (rw [drewN_self w31]; generalize hq_ : World.drewN w31 _ = w31; have n0_ := Aside0.mk (Kd.N_at hq_ HO_6.out); have n1_ := Aside0.mk (Kd.V_at hq_ HL143_0.out); have n2_ := Aside0.mk (Kd.R_at hq_ HO147.out); have n3_ := Aside0.mk (Kd.V_at hq_ HL148_0.out); have n4_ := Aside0.mk (Kd.V_at hq_ HO153.out); have n5_ := Aside0.mk (below_at hq_ HB.out); clear hq_ HO_6 HL143_0 HO147 HL148_0 HO153 HB; have HO_6 := n0_; have HL143_0 := n1_; have HO147 := n2_; have HL148_0 := n3_; have HO153 := n4_; have HB := n5_; clear n0_ n1_ n2_ n3_ n4_ n5_; (try (have HX33 := Aside0.mk (show Kd.N (Kd.slice 32 k32) 25 w31 w.heap.size (fun k_ => (P0_ k_ ∨ w.heap.size ≤ k_) ∧ some k_ ≠ (v146 : Value).ownBlock) (.slice (some ⟨go29, 0, none⟩) x6_1.length co30) x6_1 from (by (with_reducible repeat (first | apply Kd.N_alloc | apply Kd.N_drewN | apply Kd.N_drew)); exact HO_6.out)))); (try (obtain ⟨ce33, hcl33, hM33, hcc33, hfr33⟩ := Kd.N_elem HX33.out [] (x7_2 : Int) (of_decide_eq_true (by first | (with_reducible assumption) | assumption)) (by have h_ : (x7_2 : Int) < ((x6_1.length : Int) : Int) := of_decide_eq_true (by first | (with_reducible assumption) | assumption); first | exact h_ | (have e_ := (Kd.N_reads' HO_6.out).1; omega) | simpa using h_))); (try (obtain ⟨ua33_0, uc33_0, rfl, ul33_0, ge33_0⟩ := Kd.FK_slice_open hM33)); (try (have HP33 := Kd.N_seg HX33.out (x7_2 : Int) (of_decide_eq_true (by first | (with_reducible assumption) | assumption)) (by have h_ : (x7_2 : Int) < ((x6_1.length : Int) : Int) := of_decide_eq_true (by first | (with_reducible assumption) | assumption); first | exact h_ | (have e_ := (Kd.N_reads' HO_6.out).1; omega) | simpa using h_) (seg := [.slice A32 y149.length c32]) (j := 0) hcl33 hcc33 (show 1 ≤ 1 from by decide) (x' := y149) (Kd.FK_slice_mk (Kd.V_reads' (Kd.V_mono (ok' := (fun k_ => ((fun k_ => (P0_ k_ ∨ w.heap.size ≤ k_) ∧ some k_ ≠ (v146 : Value).ownBlock)) k_ ∧ k_ ≠ go29)) (HO153.out) (fun k_ hk => ⟨⟨hk.1.1, hk.1.2⟩, fun e_ => (hk.2) (by rw [e_]; rfl)⟩))).2.1 (Kd.V_F (Kd.V_mono (ok' := (fun k_ => ((fun k_ => (P0_ k_ ∨ w.heap.size ≤ k_) ∧ some k_ ≠ (v146 : Value).ownBlock)) k_ ∧ k_ ≠ go29)) (HO153.out) (fun k_ hk => ⟨⟨hk.1.1, hk.1.2⟩, fun e_ => (hk.2) (by rw [e_]; rfl)⟩)))) (fun _ hk => hk))); (try (have hx33_0 := hcc33 0 _ rfl)); (try (try simp only [show ((Kd.slice 32 k32)).sz = 1 from rfl, Nat.mul_one, Nat.add_zero] at hx33_0)); (try (have hf33_0 := hfr33 0)); (try (try simp only [show ((Kd.slice 32 k32)).sz = 1 from rfl, Nat.mul_one, Nat.add_zero] at hf33_0)); (try (clear hcl33 hcc33 hfr33 hM33)); (try (try simp only [show ((Kd.slice 32 k32)).sz = 1 from rfl, Nat.mul_one, Nat.add_zero] at HP33)); (try (try simp only [show ((Kd.slice 32 k32)).sz = 1 from rfl, Nat.mul_one, Nat.add_zero] at HP33)))); refine store_event (t := 25) (p := 69) (v := ?vo_w34) (w1 := (w31.setCell ⟨go29, (x7_2 : Int).toNat, none⟩ (.slice A32 y149.length c32))) ?hg ?ho ?hn ?hr ?_; (case ho => rfl); (case hg => rfl); (case hn => rfl); (case hr => first | (go_simp; done) | (go_simp; rfl)); intro w34 hw; have hg : w31.grownBy w34 (some go29) := (by rw [hw]; exact HP33.2); have hp_ : Kd.N (Kd.slice 32 k32) 25 w34 w.heap.size (fun k_ => (P0_ k_ ∨ w.heap.size ≤ k_) ∧ some k_ ≠ (v146 : Value).ownBlock) (.slice (some ⟨go29, 0, none⟩) x6_1.length co30) y154 := (by rw [hw, Ny154.out]; exact HP33.1); clear HP33; have n0_ := Aside0.mk (hp_); have n1_ := Aside0.mk (Kd.V_afterv (v := (.slice (some ⟨go29, 0, none⟩) x6_1.length co30)) (v1 := (.slice (some ⟨go29, 0, none⟩) x6_1.length co30)) (ok := (fun k_ => (P0_ k_ ∨ w.heap.size ≤ k_) ∧ some k_ ≠ (v146 : Value).ownBlock)) (by (with_reducible repeat (first | apply Kd.V_alloc | apply Kd.V_drewN | apply Kd.V_drew)); exact Kd.V_mono HL143_0.out (fun _ hk => ⟨⟨hk.1.1, hk.2⟩, hk.1.2⟩)) hg (.inl rfl)); have n2_ := Aside0.mk (Kd.R_over' (v := (.slice (some ⟨go29, 0, none⟩) x6_1.length co30)) (by (with_reducible repeat (first | apply Kd.R_alloc | apply Kd.R_drewN | apply Kd.R_drew)); exact HO147.out) (Kd.N_typed HO_6.out) (by decide) hg); have n3_ := Aside0.mk (Kd.V_afterv (v := (.slice (some ⟨go29, 0, none⟩) x6_1.length co30)) (v1 := (.slice (some ⟨go29, 0, none⟩) x6_1.length co30)) (ok := (fun k_ => (P0_ k_ ∨ w.heap.size ≤ k_) ∧ some k_ ≠ (v146 : Value).ownBlock)) (by (with_reducible repeat (first | apply Kd.V_alloc | apply Kd.V_drewN | apply Kd.V_drew)); exact HL148_0.out) hg (.inl rfl)); have n4_ := Aside0.mk (Kd.V_afterv (v := (.slice (some ⟨go29, 0, none⟩) x6_1.length co30)) (v1 := (.slice (some ⟨go29, 0, none⟩) x6_1.length co30)) (ok := (fun k_ => (P0_ k_ ∨ w.heap.size ≤ k_) ∧ some k_ ≠ (v146 : Value).ownBlock)) (by (with_reducible repeat (first | apply Kd.V_alloc | apply Kd.V_drewN | apply Kd.V_drew)); exact HO153.out) hg (.inl rfl)); have n5_ := Aside0.mk ((by rw [hw]; exact below_set (HB.out) GB29.out : Below w.heap.size w w34)); clear HO_6; clear HL143_0; clear HO147; clear HL148_0; clear HO153; clear HB; have HO_6 := n0_; have HL143_0 := n1_; have HO147 := n2_; have HL148_0 := n3_; have HO153 := n4_; have HB := n5_; clear n0_ n1_ n2_ n3_ n4_ n5_; clear hg hw hp_))
                            repeat (go_quiet (first | ((with_reducible refine gate_builtin (b := .append) (xs := #[.tmp 53, .tmp 60]) rfl ?_); at_builtin; refine Kd.R_append k32 (w0 := w) w.heap.size rfl (.tmp 53) (.tmp 60) 25 32 (.agg #[(.int .u64 0), (.int .u64 0)]) 16 rfl Try.underlying25 info32 rfl (by decide) (by omega) (.slice Ao8 x5_1.length co8) x5_1 (⟨(rd_T32 (rd_L2 x6_1 x7_2) 0).f0, (rd_T32 (rd_L2 x6_1 x7_2) 0).f1⟩ : S32) [.int .u64 ((rd_T32 (rd_L2 x6_1 x7_2) 0).f0), .int .u64 ((rd_T32 (rd_L2 x6_1 x7_2) 0).f1)] (fun k_ => (w.heap.size ≤ k_)) (fun _ => False) rfl rfl ?aP (fun _ hk => hk.elim) ?aF ?aO ?aB ?aS ?aL ?_; (case aP => exact k32_mkM _ _ _ (⟨(rd_T32 (rd_L2 x6_1 x7_2) 0).f0, (rd_T32 (rd_L2 x6_1 x7_2) 0).f1⟩ : S32)); (case aB => exact (by repeat (first | (with_reducible first | exact HB.out | apply below_alloc | apply pw_below_drewN | apply below_drew1) | exact HB.out))); (case aF => exact (fun k_ hk => (Nat.le_trans (below_size (by repeat (first | (with_reducible first | exact HB.out | apply below_alloc | apply pw_below_drewN | apply below_drew1) | exact HB.out))) hk))); (case aO => exact (by (with_reducible repeat (first | apply Kd.R_alloc | apply Kd.R_drewN | apply Kd.R_drew)); exact HO_5.out)); (case aS => exact (below_size (by repeat (first | (with_reducible first | exact HB.out | apply below_alloc | apply pw_below_drewN | apply below_drew1) | exact HB.out)))); (case aL => have := LMc27.out; omega); intro v146 w31 ho hb hg hat; rw [← Ny145.out] at ho; have n0_ := Aside0.mk (Kd.N_afterv (ok := (fun k_ => (P0_ k_ ∨ w.heap.size ≤ k_))) (by (with_reducible repeat (first | apply Kd.N_alloc | apply Kd.N_drewN | apply Kd.N_drew)); exact HO_6.out) hg hat); have n1_ := Aside0.mk (Kd.V_afterv (ok := (fun k_ => (P0_ k_ ∨ w.heap.size ≤ k_) ∧ some k_ ≠ (.slice (some ad143) x6_1.length co30 : Value).ownBlock)) (by (with_reducible repeat (first | apply Kd.V_alloc | apply Kd.V_drewN | apply Kd.V_drew)); exact Kd.V_mono HL143_0.out (fun _ hk => ⟨⟨hk.1.1, hk.2⟩, hk.1.2⟩)) hg hat); have n2_ := Aside0.mk (hb); have n3_ := Aside0.mk (ho); clear HO_6; clear HL143_0; clear HB; clear HO_5; have HO_6 := n0_; have HL143_0 := n1_; have HB := n2_; have HO147 := n3_; clear n0_ n1_ n2_ n3_; clear ho hb hg hat; have p148 : 0 ≤ (x7_2 : Int) := of_decide_eq_true (by first | (with_reducible assumption) | assumption); have q148 : x7_2 < (x6_1.length : Int) := of_decide_eq_true (by first | (with_reducible assumption) | assumption); obtain ⟨ad148, A148_0, c148_0, e148, hx148_0, hl148_0, hi148_0⟩ := at_L2 (Kd.N_reads' HO_6.out).2.2 x7_2 p148 q148; obtain rfl : ad143 = ad148 := (by injection e148); obtain ⟨ce148, hce148, hMe148, hcc148⟩ := Kd.N_get HO_6.out [] x7_2 p148 (by first | exact q148 | exact of_decide_eq_true (by first | (with_reducible assumption) | assumption) | (have e_ := (Kd.N_reads' HO_6.out).1; omega)); obtain ⟨ua148_0, uc148_0, rfl, ul148_0, ge148_0⟩ := Kd.FK_slice_open hMe148; have hv148_0 := hcc148 0 _ rfl; rw [Nat.add_zero, show ((Kd.slice 32 k32)).sz = 1 from rfl, Nat.mul_one] at hv148_0; replace hv148_0 := Option.some.inj (hv148_0.symm.trans hx148_0); injection hv148_0 with hva_ hvn_ hvc_; rw [hva_] at ge148_0; rw [hvc_] at ul148_0; have HL148_0 := Aside0.mk (show Kd.V k32 32 _ w.heap.size _ _ (rd_L2 x6_1 x7_2) from Kd.V_mk ul148_0 ge148_0); clear hva_ hvn_ hvc_ ge148_0 ul148_0; clear hcc148 hce148; have HR148_0 := Aside0.mk hi148_0; have HC148_0 := Aside0.mk hl148_0; clear hi148_0 hl148_0; replace p148 := eq_true p148; replace q148 := eq_true q148; have q32 : (1 : Int) ≤ (((rd_L2 x6_1 x7_2).length : Int) : Int) := of_decide_eq_true (by first | (with_reducible assumption) | assumption); obtain ⟨i032, hi032, _, hsz32, _⟩ := info_parts info32; have hroom32 : (rd_L2 x6_1 x7_2).length ≤ c148_0 := HC148_0.out; have hC32 : Kd.F k32 _ _ A148_0 (rd_L2 x6_1 x7_2).length (rd_L2 x6_1 x7_2) := (Kd.V_at (base := w.heap.size) HL148_0.out).2.2; have hcut32 := cut_from (P := Try.prog) 25 32 .i64 Try.underlying25 hi032 2 hsz32 A148_0 (rd_L2 x6_1 x7_2).length c148_0 1 (by omega) q32; have hr32 := Kd.F_cut (m := (1 : Int).toNat) (c := c148_0) hC32 (by omega) hroom32; obtain ⟨A32, hA32⟩ : ∃ A1, A1 = (if c148_0 = (1 : Int).toNat then A148_0 else (A148_0 : Option Addr).map (·.add ((1 : Int).toNat * 2))) := ⟨_, rfl⟩; obtain ⟨c32, hc32⟩ : ∃ c1, c1 = c148_0 - (1 : Int).toNat := ⟨_, rfl⟩; have hy32 : y149.length = (rd_L2 x6_1 x7_2).length - (1 : Int).toNat := (by rw [Ny149.out, List.length_drop] <;> omega); rw [show (rd_L2 x6_1 x7_2).drop (1 : Int).toNat = y149 from Ny149.out.symm] at hr32; replace hr32 : Kd.F k32 _ _ A32 y149.length y149 := (by rw [hA32]; exact hr32); rw [← hy32, ← hA32, ← hc32] at hcut32; have HO153 := Aside0.mk (show Kd.V k32 32 _ w.heap.size _ (.slice A32 y149.length c32) y149 from Kd.V_mk (by rw [hy32, hc32]; exact Nat.sub_le_sub_right hroom32 _) hr32); have HC153 := Aside0.mk (show y149.length ≤ c32 from by rw [hy32, hc32]; exact Nat.sub_le_sub_right hroom32 _); clear hr32 hC32 hroom32 hi032 hsz32 hc32; have KY32 := Aside0.mk hy32; have KA32 := Aside0.mk hA32; clear hy32 hA32; replace q32 := eq_true q32; have p29 : 0 ≤ (x7_2 : Int) := of_decide_eq_true (by first | (with_reducible assumption) | assumption); have q29 : (x7_2 : Int) < ((x6_1.length : Int) : Int) := of_decide_eq_true (by first | (with_reducible assumption) | assumption); obtain ⟨go29, co29, eo29, gb29, gl29, cl29, HG29⟩ := Kd.N_form HO_6.out (by omega); (first | cases eo29 | (injection eo29 with ea_ en_ ec_; (first | subst ea_ | (injection ea_ with ea_; subst ea_)); subst ec_; clear en_)); have GB29 := Aside0.mk gb29; have GG29 := Aside0.mk HG29; clear gb29 gl29 HG29; (first | simp only [add_plain] at hx143_0 | skip); (first | simp only [add_plain] at hx148_0 | skip); obtain ⟨ce29, hcl29, hM29, hcc29, hfr29⟩ := Kd.N_elem HO_6.out [] (x7_2 : Int) p29 q29; obtain ⟨ua29_0, uc29_0, rfl, ul29_0, ge29_0⟩ := Kd.FK_slice_open hM29; have hx29_0 := hcc29 0 _ rfl; have hf29_0 := hfr29 0; (try simp only [show ((Kd.slice 32 k32)).sz = 1 from rfl, Nat.mul_one, Nat.add_zero] at hx29_0); (try simp only [show ((Kd.slice 32 k32)).sz = 1 from rfl, Nat.mul_one, Nat.add_zero] at hf29_0); clear hcl29 hcc29 hfr29 hM29; replace p29 := eq_true p29; replace q29 := eq_true q29; have HX33 := Aside0.mk (show Kd.N (Kd.slice 32 k32) 25 w31 w.heap.size (fun k_ => (P0_ k_ ∨ w.heap.size ≤ k_) ∧ some k_ ≠ (v146 : Value).ownBlock) (.slice (some ⟨go29, 0, none⟩) x6_1.length co30) x6_1 from (by (with_reducible repeat (first | apply Kd.N_alloc | apply Kd.N_drewN | apply Kd.N_drew)); exact HO_6.out)); obtain ⟨ce33, hcl33, hM33, hcc33, hfr33⟩ := Kd.N_elem HX33.out [] (x7_2 : Int) (of_decide_eq_true (by first | (with_reducible assumption) | assumption)) (by have h_ : (x7_2 : Int) < ((x6_1.length : Int) : Int) := of_decide_eq_true (by first | (with_reducible assumption) | assumption); first | exact h_ | (have e_ := (Kd.N_reads' HO_6.out).1; omega) | simpa using h_); obtain ⟨ua33_0, uc33_0, rfl, ul33_0, ge33_0⟩ := Kd.FK_slice_open hM33; have HP33 := Kd.N_seg HX33.out (x7_2 : Int) (of_decide_eq_true (by first | (with_reducible assumption) | assumption)) (by have h_ : (x7_2 : Int) < ((x6_1.length : Int) : Int) := of_decide_eq_true (by first | (with_reducible assumption) | assumption); first | exact h_ | (have e_ := (Kd.N_reads' HO_6.out).1; omega) | simpa using h_) (seg := [.slice A32 y149.length c32]) (j := 0) hcl33 hcc33 (show 1 ≤ 1 from by decide) (x' := y149) (Kd.FK_slice_mk (Kd.V_reads' (Kd.V_mono (ok' := (fun k_ => ((fun k_ => (P0_ k_ ∨ w.heap.size ≤ k_) ∧ some k_ ≠ (v146 : Value).ownBlock)) k_ ∧ k_ ≠ go29)) (HO153.out) (fun k_ hk => ⟨⟨hk.1.1, hk.1.2⟩, fun e_ => (hk.2) (by rw [e_]; rfl)⟩))).2.1 (Kd.V_F (Kd.V_mono (ok' := (fun k_ => ((fun k_ => (P0_ k_ ∨ w.heap.size ≤ k_) ∧ some k_ ≠ (v146 : Value).ownBlock)) k_ ∧ k_ ≠ go29)) (HO153.out) (fun k_ hk => ⟨⟨hk.1.1, hk.1.2⟩, fun e_ => (hk.2) (by rw [e_]; rfl)⟩)))) (fun _ hk => hk); have hx33_0 := hcc33 0 _ rfl; (try simp only [show ((Kd.slice 32 k32)).sz = 1 from rfl, Nat.mul_one, Nat.add_zero] at hx33_0); have hf33_0 := hfr33 0; (try simp only [show ((Kd.slice 32 k32)).sz = 1 from rfl, Nat.mul_one, Nat.add_zero] at hf33_0); clear hcl33 hcc33 hfr33 hM33; (try simp only [show ((Kd.slice 32 k32)).sz = 1 from rfl, Nat.mul_one, Nat.add_zero] at HP33); (try simp only [show ((Kd.slice 32 k32)).sz = 1 from rfl, Nat.mul_one, Nat.add_zero] at HP33)) | ((with_reducible refine gate_store (t := 25) (p := 69) rfl ?_); (try (rw [drewN_self w31]; generalize hq_ : World.drewN w31 _ = w31; have n0_ := Aside0.mk (Kd.N_at hq_ HO_6.out); have n1_ := Aside0.mk (Kd.V_at hq_ HL143_0.out); have n2_ := Aside0.mk (Kd.R_at hq_ HO147.out); have n3_ := Aside0.mk (Kd.V_at hq_ HL148_0.out); have n4_ := Aside0.mk (Kd.V_at hq_ HO153.out); have n5_ := Aside0.mk (below_at hq_ HB.out); clear hq_ HO_6 HL143_0 HO147 HL148_0 HO153 HB; have HO_6 := n0_; have HL143_0 := n1_; have HO147 := n2_; have HL148_0 := n3_; have HO153 := n4_; have HB := n5_; clear n0_ n1_ n2_ n3_ n4_ n5_; (try (have HX33 := Aside0.mk (show Kd.N (Kd.slice 32 k32) 25 w31 w.heap.size (fun k_ => (P0_ k_ ∨ w.heap.size ≤ k_) ∧ some k_ ≠ (v146 : Value).ownBlock) (.slice (some ⟨go29, 0, none⟩) x6_1.length co30) x6_1 from (by (with_reducible repeat (first | apply Kd.N_alloc | apply Kd.N_drewN | apply Kd.N_drew)); exact HO_6.out)))); (try (obtain ⟨ce33, hcl33, hM33, hcc33, hfr33⟩ := Kd.N_elem HX33.out [] (x7_2 : Int) (of_decide_eq_true (by first | (with_reducible assumption) | assumption)) (by have h_ : (x7_2 : Int) < ((x6_1.length : Int) : Int) := of_decide_eq_true (by first | (with_reducible assumption) | assumption); first | exact h_ | (have e_ := (Kd.N_reads' HO_6.out).1; omega) | simpa using h_))); (try (obtain ⟨ua33_0, uc33_0, rfl, ul33_0, ge33_0⟩ := Kd.FK_slice_open hM33)); (try (have HP33 := Kd.N_seg HX33.out (x7_2 : Int) (of_decide_eq_true (by first | (with_reducible assumption) | assumption)) (by have h_ : (x7_2 : Int) < ((x6_1.length : Int) : Int) := of_decide_eq_true (by first | (with_reducible assumption) | assumption); first | exact h_ | (have e_ := (Kd.N_reads' HO_6.out).1; omega) | simpa using h_) (seg := [.slice A32 y149.length c32]) (j := 0) hcl33 hcc33 (show 1 ≤ 1 from by decide) (x' := y149) (Kd.FK_slice_mk (Kd.V_reads' (Kd.V_mono (ok' := (fun k_ => ((fun k_ => (P0_ k_ ∨ w.heap.size ≤ k_) ∧ some k_ ≠ (v146 : Value).ownBlock)) k_ ∧ k_ ≠ go29)) (HO153.out) (fun k_ hk => ⟨⟨hk.1.1, hk.1.2⟩, fun e_ => (hk.2) (by rw [e_]; rfl)⟩))).2.1 (Kd.V_F (Kd.V_mono (ok' := (fun k_ => ((fun k_ => (P0_ k_ ∨ w.heap.size ≤ k_) ∧ some k_ ≠ (v146 : Value).ownBlock)) k_ ∧ k_ ≠ go29)) (HO153.out) (fun k_ hk => ⟨⟨hk.1.1, hk.1.2⟩, fun e_ => (hk.2) (by rw [e_]; rfl)⟩)))) (fun _ hk => hk))); (try (have hx33_0 := hcc33 0 _ rfl)); (try (try simp only [show ((Kd.slice 32 k32)).sz = 1 from rfl, Nat.mul_one, Nat.add_zero] at hx33_0)); (try (have hf33_0 := hfr33 0)); (try (try simp only [show ((Kd.slice 32 k32)).sz = 1 from rfl, Nat.mul_one, Nat.add_zero] at hf33_0)); (try (clear hcl33 hcc33 hfr33 hM33)); (try (try simp only [show ((Kd.slice 32 k32)).sz = 1 from rfl, Nat.mul_one, Nat.add_zero] at HP33)); (try (try simp only [show ((Kd.slice 32 k32)).sz = 1 from rfl, Nat.mul_one, Nat.add_zero] at HP33)))); refine store_event (t := 25) (p := 69) (v := ?vo_w34) (w1 := (w31.setCell ⟨go29, (x7_2 : Int).toNat, none⟩ (.slice A32 y149.length c32))) ?hg ?ho ?hn ?hr ?_; (case ho => rfl); (case hg => rfl); (case hn => rfl); (case hr => first | (go_simp; done) | (go_simp; rfl)); intro w34 hw; have hg : w31.grownBy w34 (some go29) := (by rw [hw]; exact HP33.2); have hp_ : Kd.N (Kd.slice 32 k32) 25 w34 w.heap.size (fun k_ => (P0_ k_ ∨ w.heap.size ≤ k_) ∧ some k_ ≠ (v146 : Value).ownBlock) (.slice (some ⟨go29, 0, none⟩) x6_1.length co30) y154 := (by rw [hw, Ny154.out]; exact HP33.1); clear HP33; have n0_ := Aside0.mk (hp_); have n1_ := Aside0.mk (Kd.V_afterv (v := (.slice (some ⟨go29, 0, none⟩) x6_1.length co30)) (v1 := (.slice (some ⟨go29, 0, none⟩) x6_1.length co30)) (ok := (fun k_ => (P0_ k_ ∨ w.heap.size ≤ k_) ∧ some k_ ≠ (v146 : Value).ownBlock)) (by (with_reducible repeat (first | apply Kd.V_alloc | apply Kd.V_drewN | apply Kd.V_drew)); exact Kd.V_mono HL143_0.out (fun _ hk => ⟨⟨hk.1.1, hk.2⟩, hk.1.2⟩)) hg (.inl rfl)); have n2_ := Aside0.mk (Kd.R_over' (v := (.slice (some ⟨go29, 0, none⟩) x6_1.length co30)) (by (with_reducible repeat (first | apply Kd.R_alloc | apply Kd.R_drewN | apply Kd.R_drew)); exact HO147.out) (Kd.N_typed HO_6.out) (by decide) hg); have n3_ := Aside0.mk (Kd.V_afterv (v := (.slice (some ⟨go29, 0, none⟩) x6_1.length co30)) (v1 := (.slice (some ⟨go29, 0, none⟩) x6_1.length co30)) (ok := (fun k_ => (P0_ k_ ∨ w.heap.size ≤ k_) ∧ some k_ ≠ (v146 : Value).ownBlock)) (by (with_reducible repeat (first | apply Kd.V_alloc | apply Kd.V_drewN | apply Kd.V_drew)); exact HL148_0.out) hg (.inl rfl)); have n4_ := Aside0.mk (Kd.V_afterv (v := (.slice (some ⟨go29, 0, none⟩) x6_1.length co30)) (v1 := (.slice (some ⟨go29, 0, none⟩) x6_1.length co30)) (ok := (fun k_ => (P0_ k_ ∨ w.heap.size ≤ k_) ∧ some k_ ≠ (v146 : Value).ownBlock)) (by (with_reducible repeat (first | apply Kd.V_alloc | apply Kd.V_drewN | apply Kd.V_drew)); exact HO153.out) hg (.inl rfl)); have n5_ := Aside0.mk ((by rw [hw]; exact below_set (HB.out) GB29.out : Below w.heap.size w w34)); clear HO_6; clear HL143_0; clear HO147; clear HL148_0; clear HO153; clear HB; have HO_6 := n0_; have HL143_0 := n1_; have HO147 := n2_; have HL148_0 := n3_; have HO153 := n4_; have HB := n5_; clear n0_ n1_ n2_ n3_ n4_ n5_; clear hg hw hp_)); try go_wp2_with (first | ((with_reducible refine gate_builtin (b := .append) (xs := #[.tmp 53, .tmp 60]) rfl ?_); at_builtin; refine Kd.R_append k32 (w0 := w) w.heap.size rfl (.tmp 53) (.tmp 60) 25 32 (.agg #[(.int .u64 0), (.int .u64 0)]) 16 rfl Try.underlying25 info32 rfl (by decide) (by omega) (.slice Ao8 x5_1.length co8) x5_1 (⟨(rd_T32 (rd_L2 x6_1 x7_2) 0).f0, (rd_T32 (rd_L2 x6_1 x7_2) 0).f1⟩ : S32) [.int .u64 ((rd_T32 (rd_L2 x6_1 x7_2) 0).f0), .int .u64 ((rd_T32 (rd_L2 x6_1 x7_2) 0).f1)] (fun k_ => (w.heap.size ≤ k_)) (fun _ => False) rfl rfl ?aP (fun _ hk => hk.elim) ?aF ?aO ?aB ?aS ?aL ?_; (case aP => exact k32_mkM _ _ _ (⟨(rd_T32 (rd_L2 x6_1 x7_2) 0).f0, (rd_T32 (rd_L2 x6_1 x7_2) 0).f1⟩ : S32)); (case aB => exact (by repeat (first | (with_reducible first | exact HB.out | apply below_alloc | apply pw_below_drewN | apply below_drew1) | exact HB.out))); (case aF => exact (fun k_ hk => (Nat.le_trans (below_size (by repeat (first | (with_reducible first | exact HB.out | apply below_alloc | apply pw_below_drewN | apply below_drew1) | exact HB.out))) hk))); (case aO => exact (by (with_reducible repeat (first | apply Kd.R_alloc | apply Kd.R_drewN | apply Kd.R_drew)); exact HO_5.out)); (case aS => exact (below_size (by repeat (first | (with_reducible first | exact HB.out | apply below_alloc | apply pw_below_drewN | apply below_drew1) | exact HB.out)))); (case aL => have := LMc27.out; omega); intro v146 w31 ho hb hg hat; rw [← Ny145.out] at ho; have n0_ := Aside0.mk (Kd.N_afterv (ok := (fun k_ => (P0_ k_ ∨ w.heap.size ≤ k_))) (by (with_reducible repeat (first | apply Kd.N_alloc | apply Kd.N_drewN | apply Kd.N_drew)); exact HO_6.out) hg hat); have n1_ := Aside0.mk (Kd.V_afterv (ok := (fun k_ => (P0_ k_ ∨ w.heap.size ≤ k_) ∧ some k_ ≠ (.slice (some ad143) x6_1.length co30 : Value).ownBlock)) (by (with_reducible repeat (first | apply Kd.V_alloc | apply Kd.V_drewN | apply Kd.V_drew)); exact Kd.V_mono HL143_0.out (fun _ hk => ⟨⟨hk.1.1, hk.2⟩, hk.1.2⟩)) hg hat); have n2_ := Aside0.mk (hb); have n3_ := Aside0.mk (ho); clear HO_6; clear HL143_0; clear HB; clear HO_5; have HO_6 := n0_; have HL143_0 := n1_; have HB := n2_; have HO147 := n3_; clear n0_ n1_ n2_ n3_; clear ho hb hg hat; have p148 : 0 ≤ (x7_2 : Int) := of_decide_eq_true (by first | (with_reducible assumption) | assumption); have q148 : x7_2 < (x6_1.length : Int) := of_decide_eq_true (by first | (with_reducible assumption) | assumption); obtain ⟨ad148, A148_0, c148_0, e148, hx148_0, hl148_0, hi148_0⟩ := at_L2 (Kd.N_reads' HO_6.out).2.2 x7_2 p148 q148; obtain rfl : ad143 = ad148 := (by injection e148); obtain ⟨ce148, hce148, hMe148, hcc148⟩ := Kd.N_get HO_6.out [] x7_2 p148 (by first | exact q148 | exact of_decide_eq_true (by first | (with_reducible assumption) | assumption) | (have e_ := (Kd.N_reads' HO_6.out).1; omega)); obtain ⟨ua148_0, uc148_0, rfl, ul148_0, ge148_0⟩ := Kd.FK_slice_open hMe148; have hv148_0 := hcc148 0 _ rfl; rw [Nat.add_zero, show ((Kd.slice 32 k32)).sz = 1 from rfl, Nat.mul_one] at hv148_0; replace hv148_0 := Option.some.inj (hv148_0.symm.trans hx148_0); injection hv148_0 with hva_ hvn_ hvc_; rw [hva_] at ge148_0; rw [hvc_] at ul148_0; have HL148_0 := Aside0.mk (show Kd.V k32 32 _ w.heap.size _ _ (rd_L2 x6_1 x7_2) from Kd.V_mk ul148_0 ge148_0); clear hva_ hvn_ hvc_ ge148_0 ul148_0; clear hcc148 hce148; have HR148_0 := Aside0.mk hi148_0; have HC148_0 := Aside0.mk hl148_0; clear hi148_0 hl148_0; replace p148 := eq_true p148; replace q148 := eq_true q148; have q32 : (1 : Int) ≤ (((rd_L2 x6_1 x7_2).length : Int) : Int) := of_decide_eq_true (by first | (with_reducible assumption) | assumption); obtain ⟨i032, hi032, _, hsz32, _⟩ := info_parts info32; have hroom32 : (rd_L2 x6_1 x7_2).length ≤ c148_0 := HC148_0.out; have hC32 : Kd.F k32 _ _ A148_0 (rd_L2 x6_1 x7_2).length (rd_L2 x6_1 x7_2) := (Kd.V_at (base := w.heap.size) HL148_0.out).2.2; have hcut32 := cut_from (P := Try.prog) 25 32 .i64 Try.underlying25 hi032 2 hsz32 A148_0 (rd_L2 x6_1 x7_2).length c148_0 1 (by omega) q32; have hr32 := Kd.F_cut (m := (1 : Int).toNat) (c := c148_0) hC32 (by omega) hroom32; obtain ⟨A32, hA32⟩ : ∃ A1, A1 = (if c148_0 = (1 : Int).toNat then A148_0 else (A148_0 : Option Addr).map (·.add ((1 : Int).toNat * 2))) := ⟨_, rfl⟩; obtain ⟨c32, hc32⟩ : ∃ c1, c1 = c148_0 - (1 : Int).toNat := ⟨_, rfl⟩; have hy32 : y149.length = (rd_L2 x6_1 x7_2).length - (1 : Int).toNat := (by rw [Ny149.out, List.length_drop] <;> omega); rw [show (rd_L2 x6_1 x7_2).drop (1 : Int).toNat = y149 from Ny149.out.symm] at hr32; replace hr32 : Kd.F k32 _ _ A32 y149.length y149 := (by rw [hA32]; exact hr32); rw [← hy32, ← hA32, ← hc32] at hcut32; have HO153 := Aside0.mk (show Kd.V k32 32 _ w.heap.size _ (.slice A32 y149.length c32) y149 from Kd.V_mk (by rw [hy32, hc32]; exact Nat.sub_le_sub_right hroom32 _) hr32); have HC153 := Aside0.mk (show y149.length ≤ c32 from by rw [hy32, hc32]; exact Nat.sub_le_sub_right hroom32 _); clear hr32 hC32 hroom32 hi032 hsz32 hc32; have KY32 := Aside0.mk hy32; have KA32 := Aside0.mk hA32; clear hy32 hA32; replace q32 := eq_true q32; have p29 : 0 ≤ (x7_2 : Int) := of_decide_eq_true (by first | (with_reducible assumption) | assumption); have q29 : (x7_2 : Int) < ((x6_1.length : Int) : Int) := of_decide_eq_true (by first | (with_reducible assumption) | assumption); obtain ⟨go29, co29, eo29, gb29, gl29, cl29, HG29⟩ := Kd.N_form HO_6.out (by omega); (first | cases eo29 | (injection eo29 with ea_ en_ ec_; (first | subst ea_ | (injection ea_ with ea_; subst ea_)); subst ec_; clear en_)); have GB29 := Aside0.mk gb29; have GG29 := Aside0.mk HG29; clear gb29 gl29 HG29; (first | simp only [add_plain] at hx143_0 | skip); (first | simp only [add_plain] at hx148_0 | skip); obtain ⟨ce29, hcl29, hM29, hcc29, hfr29⟩ := Kd.N_elem HO_6.out [] (x7_2 : Int) p29 q29; obtain ⟨ua29_0, uc29_0, rfl, ul29_0, ge29_0⟩ := Kd.FK_slice_open hM29; have hx29_0 := hcc29 0 _ rfl; have hf29_0 := hfr29 0; (try simp only [show ((Kd.slice 32 k32)).sz = 1 from rfl, Nat.mul_one, Nat.add_zero] at hx29_0); (try simp only [show ((Kd.slice 32 k32)).sz = 1 from rfl, Nat.mul_one, Nat.add_zero] at hf29_0); clear hcl29 hcc29 hfr29 hM29; replace p29 := eq_true p29; replace q29 := eq_true q29; have HX33 := Aside0.mk (show Kd.N (Kd.slice 32 k32) 25 w31 w.heap.size (fun k_ => (P0_ k_ ∨ w.heap.size ≤ k_) ∧ some k_ ≠ (v146 : Value).ownBlock) (.slice (some ⟨go29, 0, none⟩) x6_1.length co30) x6_1 from (by (with_reducible repeat (first | apply Kd.N_alloc | apply Kd.N_drewN | apply Kd.N_drew)); exact HO_6.out)); obtain ⟨ce33, hcl33, hM33, hcc33, hfr33⟩ := Kd.N_elem HX33.out [] (x7_2 : Int) (of_decide_eq_true (by first | (with_reducible assumption) | assumption)) (by have h_ : (x7_2 : Int) < ((x6_1.length : Int) : Int) := of_decide_eq_true (by first | (with_reducible assumption) | assumption); first | exact h_ | (have e_ := (Kd.N_reads' HO_6.out).1; omega) | simpa using h_); obtain ⟨ua33_0, uc33_0, rfl, ul33_0, ge33_0⟩ := Kd.FK_slice_open hM33; have HP33 := Kd.N_seg HX33.out (x7_2 : Int) (of_decide_eq_true (by first | (with_reducible assumption) | assumption)) (by have h_ : (x7_2 : Int) < ((x6_1.length : Int) : Int) := of_decide_eq_true (by first | (with_reducible assumption) | assumption); first | exact h_ | (have e_ := (Kd.N_reads' HO_6.out).1; omega) | simpa using h_) (seg := [.slice A32 y149.length c32]) (j := 0) hcl33 hcc33 (show 1 ≤ 1 from by decide) (x' := y149) (Kd.FK_slice_mk (Kd.V_reads' (Kd.V_mono (ok' := (fun k_ => ((fun k_ => (P0_ k_ ∨ w.heap.size ≤ k_) ∧ some k_ ≠ (v146 : Value).ownBlock)) k_ ∧ k_ ≠ go29)) (HO153.out) (fun k_ hk => ⟨⟨hk.1.1, hk.1.2⟩, fun e_ => (hk.2) (by rw [e_]; rfl)⟩))).2.1 (Kd.V_F (Kd.V_mono (ok' := (fun k_ => ((fun k_ => (P0_ k_ ∨ w.heap.size ≤ k_) ∧ some k_ ≠ (v146 : Value).ownBlock)) k_ ∧ k_ ≠ go29)) (HO153.out) (fun k_ hk => ⟨⟨hk.1.1, hk.1.2⟩, fun e_ => (hk.2) (by rw [e_]; rfl)⟩)))) (fun _ hk => hk); have hx33_0 := hcc33 0 _ rfl; (try simp only [show ((Kd.slice 32 k32)).sz = 1 from rfl, Nat.mul_one, Nat.add_zero] at hx33_0); have hf33_0 := hfr33 0; (try simp only [show ((Kd.slice 32 k32)).sz = 1 from rfl, Nat.mul_one, Nat.add_zero] at hf33_0); clear hcl33 hcc33 hfr33 hM33; (try simp only [show ((Kd.slice 32 k32)).sz = 1 from rfl, Nat.mul_one, Nat.add_zero] at HP33); (try simp only [show ((Kd.slice 32 k32)).sz = 1 from rfl, Nat.mul_one, Nat.add_zero] at HP33)) | ((with_reducible refine gate_store (t := 25) (p := 69) rfl ?_); (try (rw [drewN_self w31]; generalize hq_ : World.drewN w31 _ = w31; have n0_ := Aside0.mk (Kd.N_at hq_ HO_6.out); have n1_ := Aside0.mk (Kd.V_at hq_ HL143_0.out); have n2_ := Aside0.mk (Kd.R_at hq_ HO147.out); have n3_ := Aside0.mk (Kd.V_at hq_ HL148_0.out); have n4_ := Aside0.mk (Kd.V_at hq_ HO153.out); have n5_ := Aside0.mk (below_at hq_ HB.out); clear hq_ HO_6 HL143_0 HO147 HL148_0 HO153 HB; have HO_6 := n0_; have HL143_0 := n1_; have HO147 := n2_; have HL148_0 := n3_; have HO153 := n4_; have HB := n5_; clear n0_ n1_ n2_ n3_ n4_ n5_; (try (have HX33 := Aside0.mk (show Kd.N (Kd.slice 32 k32) 25 w31 w.heap.size (fun k_ => (P0_ k_ ∨ w.heap.size ≤ k_) ∧ some k_ ≠ (v146 : Value).ownBlock) (.slice (some ⟨go29, 0, none⟩) x6_1.length co30) x6_1 from (by (with_reducible repeat (first | apply Kd.N_alloc | apply Kd.N_drewN | apply Kd.N_drew)); exact HO_6.out)))); (try (obtain ⟨ce33, hcl33, hM33, hcc33, hfr33⟩ := Kd.N_elem HX33.out [] (x7_2 : Int) (of_decide_eq_true (by first | (with_reducible assumption) | assumption)) (by have h_ : (x7_2 : Int) < ((x6_1.length : Int) : Int) := of_decide_eq_true (by first | (with_reducible assumption) | assumption); first | exact h_ | (have e_ := (Kd.N_reads' HO_6.out).1; omega) | simpa using h_))); (try (obtain ⟨ua33_0, uc33_0, rfl, ul33_0, ge33_0⟩ := Kd.FK_slice_open hM33)); (try (have HP33 := Kd.N_seg HX33.out (x7_2 : Int) (of_decide_eq_true (by first | (with_reducible assumption) | assumption)) (by have h_ : (x7_2 : Int) < ((x6_1.length : Int) : Int) := of_decide_eq_true (by first | (with_reducible assumption) | assumption); first | exact h_ | (have e_ := (Kd.N_reads' HO_6.out).1; omega) | simpa using h_) (seg := [.slice A32 y149.length c32]) (j := 0) hcl33 hcc33 (show 1 ≤ 1 from by decide) (x' := y149) (Kd.FK_slice_mk (Kd.V_reads' (Kd.V_mono (ok' := (fun k_ => ((fun k_ => (P0_ k_ ∨ w.heap.size ≤ k_) ∧ some k_ ≠ (v146 : Value).ownBlock)) k_ ∧ k_ ≠ go29)) (HO153.out) (fun k_ hk => ⟨⟨hk.1.1, hk.1.2⟩, fun e_ => (hk.2) (by rw [e_]; rfl)⟩))).2.1 (Kd.V_F (Kd.V_mono (ok' := (fun k_ => ((fun k_ => (P0_ k_ ∨ w.heap.size ≤ k_) ∧ some k_ ≠ (v146 : Value).ownBlock)) k_ ∧ k_ ≠ go29)) (HO153.out) (fun k_ hk => ⟨⟨hk.1.1, hk.1.2⟩, fun e_ => (hk.2) (by rw [e_]; rfl)⟩)))) (fun _ hk => hk))); (try (have hx33_0 := hcc33 0 _ rfl)); (try (try simp only [show ((Kd.slice 32 k32)).sz = 1 from rfl, Nat.mul_one, Nat.add_zero] at hx33_0)); (try (have hf33_0 := hfr33 0)); (try (try simp only [show ((Kd.slice 32 k32)).sz = 1 from rfl, Nat.mul_one, Nat.add_zero] at hf33_0)); (try (clear hcl33 hcc33 hfr33 hM33)); (try (try simp only [show ((Kd.slice 32 k32)).sz = 1 from rfl, Nat.mul_one, Nat.add_zero] at HP33)); (try (try simp only [show ((Kd.slice 32 k32)).sz = 1 from rfl, Nat.mul_one, Nat.add_zero] at HP33)))); refine store_event (t := 25) (p := 69) (v := ?vo_w34) (w1 := (w31.setCell ⟨go29, (x7_2 : Int).toNat, none⟩ (.slice A32 y149.length c32))) ?hg ?ho ?hn ?hr ?_; (case ho => rfl); (case hg => rfl); (case hn => rfl); (case hr => first | (go_simp; done) | (go_simp; rfl)); intro w34 hw; have hg : w31.grownBy w34 (some go29) := (by rw [hw]; exact HP33.2); have hp_ : Kd.N (Kd.slice 32 k32) 25 w34 w.heap.size (fun k_ => (P0_ k_ ∨ w.heap.size ≤ k_) ∧ some k_ ≠ (v146 : Value).ownBlock) (.slice (some ⟨go29, 0, none⟩) x6_1.length co30) y154 := (by rw [hw, Ny154.out]; exact HP33.1); clear HP33; have n0_ := Aside0.mk (hp_); have n1_ := Aside0.mk (Kd.V_afterv (v := (.slice (some ⟨go29, 0, none⟩) x6_1.length co30)) (v1 := (.slice (some ⟨go29, 0, none⟩) x6_1.length co30)) (ok := (fun k_ => (P0_ k_ ∨ w.heap.size ≤ k_) ∧ some k_ ≠ (v146 : Value).ownBlock)) (by (with_reducible repeat (first | apply Kd.V_alloc | apply Kd.V_drewN | apply Kd.V_drew)); exact Kd.V_mono HL143_0.out (fun _ hk => ⟨⟨hk.1.1, hk.2⟩, hk.1.2⟩)) hg (.inl rfl)); have n2_ := Aside0.mk (Kd.R_over' (v := (.slice (some ⟨go29, 0, none⟩) x6_1.length co30)) (by (with_reducible repeat (first | apply Kd.R_alloc | apply Kd.R_drewN | apply Kd.R_drew)); exact HO147.out) (Kd.N_typed HO_6.out) (by decide) hg); have n3_ := Aside0.mk (Kd.V_afterv (v := (.slice (some ⟨go29, 0, none⟩) x6_1.length co30)) (v1 := (.slice (some ⟨go29, 0, none⟩) x6_1.length co30)) (ok := (fun k_ => (P0_ k_ ∨ w.heap.size ≤ k_) ∧ some k_ ≠ (v146 : Value).ownBlock)) (by (with_reducible repeat (first | apply Kd.V_alloc | apply Kd.V_drewN | apply Kd.V_drew)); exact HL148_0.out) hg (.inl rfl)); have n4_ := Aside0.mk (Kd.V_afterv (v := (.slice (some ⟨go29, 0, none⟩) x6_1.length co30)) (v1 := (.slice (some ⟨go29, 0, none⟩) x6_1.length co30)) (ok := (fun k_ => (P0_ k_ ∨ w.heap.size ≤ k_) ∧ some k_ ≠ (v146 : Value).ownBlock)) (by (with_reducible repeat (first | apply Kd.V_alloc | apply Kd.V_drewN | apply Kd.V_drew)); exact HO153.out) hg (.inl rfl)); have n5_ := Aside0.mk ((by rw [hw]; exact below_set (HB.out) GB29.out : Below w.heap.size w w34)); clear HO_6; clear HL143_0; clear HO147; clear HL148_0; clear HO153; clear HB; have HO_6 := n0_; have HL143_0 := n1_; have HO147 := n2_; have HL148_0 := n3_; have HO153 := n4_; have HB := n5_; clear n0_ n1_ n2_ n3_ n4_ n5_; clear hg hw hp_)))
                            go_roundg k2
                            case measure => have := HK1.out; have := HK2.out; omega
                            case rel => exact ⟨(y145), (y154), H', ⟨by have := HK1.out; have := HK2.out; omega⟩, ⟨by (with_reducible repeat (first | apply Kd.R_alloc | apply Kd.R_drewN | apply Kd.R_drew)); exact HO147.out⟩, ⟨by (with_reducible repeat (first | apply Kd.N_alloc | apply Kd.N_drewN | apply Kd.N_drew)); exact HO_6.out⟩, ⟨by repeat (first | (with_reducible first | exact HB.out | apply below_alloc | apply pw_below_drewN | apply below_drew1) | exact HB.out)⟩⟩
                          · rw [if_neg c28] at H
                            exact absurd H (by simp)
                        · rw [if_neg c27] at H
                          exact absurd H (by simp)
                      · rw [if_neg c26] at H
                        exact absurd H (by simp)
                    · rw [if_neg c25] at H
                      exact absurd H (by simp)
                  · rw [if_neg c24] at H
                    exact absurd H (by simp)
        · rw [if_neg c7] at H
          have c7b0 : decide ((x5_1.length : Int) < a1) = false := decide_eq_false c7
          clear c7
          obtain rfl := Option.some.inj H
          obtain ⟨Ao35, co35, eo35⟩ := Kd.R_slice HO_5.out
          subst eo35
          go_wp2
          repeat (go_quiet (fail); try go_wp2)
          go_ret
          exact ⟨_, by first | rfl | (simp [errW_none, errW_some] <;> rfl) | (simp [*, errW_none, errW_some] <;> rfl), by (with_reducible repeat (first | apply Kd.R_alloc | apply Kd.R_drewN | apply Kd.R_drew)); exact HO_5.out, by repeat (first | (with_reducible first | exact HB.out | apply below_alloc | apply pw_below_drewN | apply below_drew1) | exact HB.out)⟩
  · rw [if_neg c3] at H
    exact absurd H (by simp)

/-! ### corrieref17_Rises: function 14 -/
def corrieref17_Rises.l0 : Nat → List (S32) → Int → Option (Bool)
  | 0, _, _ => none
  | k + 1, x0, x3 => if x3 < (x0.length : Int) then (if 0 ≤ x3 then (if 0 ≤ (wrap64 (x3 - 1)) then (if (wrap64 (x3 - 1)) < (x0.length : Int) then (if ((rd_T32 x0 x3).f0) ≤ ((rd_T32 x0 (wrap64 (x3 - 1))).f0) then (some false) else (corrieref17_Rises.l0 k x0 (wrap64 (x3 + 1)))) else (none)) else (none)) else (none)) else (some true)
def corrieref17_Rises.f (k : Nat) (l0 : List (S32)) : Option (Bool) := corrieref17_Rises.l0 k l0 1
theorem corrieref17_Rises.mono_l : ∀ k, (∀ y0 y1, LeO (corrieref17_Rises.l0 k y0 y1) (corrieref17_Rises.l0 (k + 1) y0 y1))
  | 0 => fun _ _ r h => by simp [corrieref17_Rises.l0] at h
  | k + 1 => by
    have ih0 := corrieref17_Rises.mono_l k
    · intro y0 y1
      unfold corrieref17_Rises.l0
      repeat' first
      | (with_reducible exact ih0 _ _)
      | (with_reducible exact LeO.refl _)
      | (with_reducible exact LeO.none _)
      | (with_reducible refine LeO.ite ?_ ?_)
      | (with_reducible refine LeO.bind ?_ (fun _ => ?_))
      | exact ih0 _ _
      | exact LeO.none _
      | refine LeO.ite ?_ ?_
      | refine LeO.bind ?_ (fun _ => ?_)
theorem corrieref17_Rises.mono : ∀ a0 k, LeO (corrieref17_Rises.f k a0) (corrieref17_Rises.f (k + 1) a0) := by
  intro a0 k
  have ih0 := corrieref17_Rises.mono_l k
  unfold corrieref17_Rises.f
  repeat' first
      | (with_reducible exact ih0 _ _)
      | (with_reducible exact LeO.refl _)
      | (with_reducible exact LeO.none _)
      | (with_reducible refine LeO.ite ?_ ?_)
      | (with_reducible refine LeO.bind ?_ (fun _ => ?_))
      | exact ih0 _ _
      | exact LeO.none _
      | refine LeO.ite ?_ ?_
      | refine LeO.bind ?_ (fun _ => ?_)
set_option maxHeartbeats 8000000 in
set_option maxRecDepth 100000 in
theorem corrieref17_Rises.calls (k : Nat) (A0 : Option Addr) (c0 : Nat) (l0 : List (S32)) (r : Bool) (w : World) (hr0 : Kd.C k32 w A0 l0.length l0) (hc0 : l0.length ≤ c0) (h : corrieref17_Rises.f k l0 = some r) :
    Calls Try.prog 14 #[.slice A0 l0.length c0] w fun e w' => e = .returned (.bool r) ∧ Drawn0 w w' := by
  have HR0 := Aside0.mk hr0
  have HC0 := Aside0.mk hc0
  clear hr0 hc0
  have H : (corrieref17_Rises.l0 k l0 1) = some r := h
  clear h
  have H' := Aside0.mk H
  clear H
  go_enter Try.func14, Try.ntmps14
  go_wp2
  repeat (go_quiet (fail); try go_wp2)
  go_loopg [3] k (fun kq v3 w' => ∃ (x3_1 : Int), v3 = .int .i64 x3_1 ∧ Aside0 (corrieref17_Rises.l0 kq l0 x3_1 = some r) ∧ Aside0 (kq ≤ k) ∧ Drawn0 w w')
  case atStart => exact ⟨(1), (by first | rfl | (simp; done) | (simp [*]; done)), H', ⟨Nat.le_refl _⟩, by repeat (first | exact Drawn0.refl _ | apply Drawn0.step)⟩
  case round =>
    clear H'
    try clear c1
    obtain ⟨x3_1, rfl, HA, HK1, ⟨m1, rfl⟩⟩ := hrel
    cases gk with
    | zero => exact absurd HA.out (by simp [corrieref17_Rises.l0])
    | succ k1 =>
      have H := HA.out
      clear HA
      simp only [corrieref17_Rises.l0] at H
      by_cases c2 : x3_1 < (l0.length : Int)
      · rw [if_pos c2] at H
        have c2b0 : decide (x3_1 < (l0.length : Int)) = true := decide_eq_true c2
        clear c2
        by_cases c3 : 0 ≤ x3_1
        · rw [if_pos c3] at H
          have c3b0 : decide (0 ≤ x3_1) = true := decide_eq_true c3
          clear c3
          obtain ⟨ji4, hji4⟩ : ∃ j_ : Int, (wrap64 (x3_1 - 1)) = j_ := ⟨_, rfl⟩
          replace H : (if 0 ≤ (ji4) then (if (ji4) < (l0.length : Int) then (if ((rd_T32 l0 x3_1).f0) ≤ ((rd_T32 l0 (ji4)).f0) then (some false) else (corrieref17_Rises.l0 k1 l0 (wrap64 (x3_1 + 1)))) else (none)) else (none)) = some r := by first | (rw [hji4] at H; exact H) | (simp only [hji4] at H ⊢; exact H)
          have hji4w : (IntKind.i64.wrap (x3_1 - 1)) = ji4 := (i64_w _).trans hji4
          by_cases c5 : 0 ≤ (ji4)
          · rw [if_pos c5] at H
            have c5b0 : decide (0 ≤ (ji4)) = true := decide_eq_true c5
            clear c5
            by_cases c6 : (ji4) < (l0.length : Int)
            · rw [if_pos c6] at H
              have c6b0 : decide ((ji4) < (l0.length : Int)) = true := decide_eq_true c6
              clear c6
              by_cases c7 : ((rd_T32 l0 x3_1).f0) ≤ ((rd_T32 l0 (ji4)).f0)
              · rw [if_pos c7] at H
                have c7b0 : decide (((rd_T32 l0 x3_1).f0) ≤ ((rd_T32 l0 (ji4)).f0)) = true := decide_eq_true c7
                clear c7
                obtain rfl := Option.some.inj H
                have p155 : 0 ≤ (x3_1 : Int) := of_decide_eq_true (by first | (with_reducible assumption) | assumption)
                have q155 : x3_1 < (l0.length : Int) := of_decide_eq_true (by first | (with_reducible assumption) | assumption)
                obtain ⟨ad155, e155, hx155_0, hx155_1⟩ := at_T32 HR0.out x3_1 p155 q155
                cases e155
                replace p155 := eq_true p155
                replace q155 := eq_true q155
                have p156 : 0 ≤ ((ji4) : Int) := of_decide_eq_true (by first | (with_reducible assumption) | assumption)
                have q156 : (ji4) < (l0.length : Int) := of_decide_eq_true (by first | (with_reducible assumption) | assumption)
                obtain ⟨ad156, e156, hx156_0, hx156_1⟩ := at_T32 HR0.out (ji4) p156 q156
                obtain rfl : ad155 = ad156 := (by injection e156)
                replace p156 := eq_true p156
                replace q156 := eq_true q156
                go_wp2
                repeat (go_quiet (fail); try go_wp2)
                go_ret
                exact ⟨by first | rfl | (simp; done) | (simp only [← hji4] <;> (first | rfl | simp)) | (simp [*]; done), by repeat (first | exact Drawn0.refl _ | apply Drawn0.step)⟩
              · rw [if_neg c7] at H
                have c7b0 : decide (((rd_T32 l0 x3_1).f0) ≤ ((rd_T32 l0 (ji4)).f0)) = false := decide_eq_false c7
                clear c7
                have H' := Aside0.mk H
                clear H
                have p155 : 0 ≤ (x3_1 : Int) := of_decide_eq_true (by first | (with_reducible assumption) | assumption)
                have q155 : x3_1 < (l0.length : Int) := of_decide_eq_true (by first | (with_reducible assumption) | assumption)
                obtain ⟨ad155, e155, hx155_0, hx155_1⟩ := at_T32 HR0.out x3_1 p155 q155
                cases e155
                replace p155 := eq_true p155
                replace q155 := eq_true q155
                have p156 : 0 ≤ ((ji4) : Int) := of_decide_eq_true (by first | (with_reducible assumption) | assumption)
                have q156 : (ji4) < (l0.length : Int) := of_decide_eq_true (by first | (with_reducible assumption) | assumption)
                obtain ⟨ad156, e156, hx156_0, hx156_1⟩ := at_T32 HR0.out (ji4) p156 q156
                obtain rfl : ad155 = ad156 := (by injection e156)
                replace p156 := eq_true p156
                replace q156 := eq_true q156
                go_wp2
                repeat (go_quiet (fail); try go_wp2)
                go_roundg k1
                case measure => have := HK1.out; omega
                case rel => exact ⟨(wrap64 (x3_1 + 1)), (by first | rfl | (simp; done) | (simp [*]; done)), H', ⟨by have := HK1.out; omega⟩, by repeat (first | exact Drawn0.refl _ | apply Drawn0.step)⟩
            · rw [if_neg c6] at H
              exact absurd H (by simp)
          · rw [if_neg c5] at H
            exact absurd H (by simp)
        · rw [if_neg c3] at H
          exact absurd H (by simp)
      · rw [if_neg c2] at H
        have c2b0 : decide (x3_1 < (l0.length : Int)) = false := decide_eq_false c2
        clear c2
        obtain rfl := Option.some.inj H
        go_wp2
        repeat (go_quiet (fail); try go_wp2)
        go_ret
        exact ⟨by first | rfl | (simp; done) | (simp [*]; done), by repeat (first | exact Drawn0.refl _ | apply Drawn0.step)⟩

/-! ### corrielaw17_MergePairs: function 3 -/
def corrielaw17_MergePairs.f (k : Nat) (l0 : List (List (S32))) (a1 : Int) : Option (Bool) := (corrielaw17_awake.f k).bind fun t157 => ((corrieref17_Few.f k l0).bind fun t158 => (if t158 = true then ((merge_Pairs.f l0 a1).bind fun t159 => (if t157 = true then ((corrieref17_Pairs.f k l0 a1).bind fun t162 => ((corrieref09_Same.f k t159 t162).bind fun t165 => (if t165 = true then ((merge_Rises.f k t159).bind fun t166 => ((corrieref17_Rises.f k t159).bind fun t167 => (some (t166 == t167)))) else (some false)))) else (some false))) else (some t157)))
theorem corrielaw17_MergePairs.mono : ∀ a0 a1 k, LeO (corrielaw17_MergePairs.f k a0 a1) (corrielaw17_MergePairs.f (k + 1) a0 a1) := by
  intro a0 a1 k
  unfold corrielaw17_MergePairs.f
  repeat' first
      | (with_reducible exact corrielaw17_awake.mono _)
      | (with_reducible exact corrieref09_Same.mono _ _ _)
      | (with_reducible exact corrieref17_Few.mono _ _)
      | (with_reducible exact corrieref17_Pairs.mono _ _ _)
      | (with_reducible exact corrieref17_Rises.mono _ _)
      | (with_reducible exact merge_Rises.mono _ _)
      | (with_reducible exact LeO.refl _)
      | (with_reducible exact LeO.none _)
      | (with_reducible refine LeO.ite ?_ ?_)
      | (with_reducible refine LeO.bind ?_ (fun _ => ?_))
      | exact corrielaw17_awake.mono _
      | exact corrieref09_Same.mono _ _ _
      | exact corrieref17_Few.mono _ _
      | exact corrieref17_Pairs.mono _ _ _
      | exact corrieref17_Rises.mono _ _
      | exact merge_Rises.mono _ _
      | exact LeO.none _
      | refine LeO.ite ?_ ?_
      | refine LeO.bind ?_ (fun _ => ?_)
set_option maxHeartbeats 8000000 in
set_option maxRecDepth 100000 in
theorem corrielaw17_MergePairs.calls (k : Nat) (A0 : Option Addr) (c0 : Nat) (l0 : List (List (S32))) (a1 : Int) (r : Bool) (w : World) (hr0 : Kd.C (Kd.slice 32 k32) w A0 l0.length l0) (hc0 : l0.length ≤ c0) (h : corrielaw17_MergePairs.f k l0 a1 = some r) :
    Calls Try.prog 3 #[.slice A0 l0.length c0, .int .i64 a1] w fun e w' => e = .returned (.bool r) ∧ Below w.heap.size w w' := by
  have HR0 := Aside0.mk hr0
  have HC0 := Aside0.mk hc0
  clear hr0 hc0
  have HB := Aside0.mk (Below.refl w.heap.size w)
  have H : ((corrielaw17_awake.f k).bind fun t157 => ((corrieref17_Few.f k l0).bind fun t158 => (if t158 = true then ((merge_Pairs.f l0 a1).bind fun t159 => (if t157 = true then ((corrieref17_Pairs.f k l0 a1).bind fun t162 => ((corrieref09_Same.f k t159 t162).bind fun t165 => (if t165 = true then ((merge_Rises.f k t159).bind fun t166 => ((corrieref17_Rises.f k t159).bind fun t167 => (some (t166 == t167)))) else (some false)))) else (some false))) else (some t157)))) = some r := h
  clear h
  replace H := Option.bind_eq_some_iff.mp H
  obtain ⟨t157, A30, H⟩ := H
  replace H : ((corrieref17_Few.f k l0).bind fun t158 => (if t158 = true then ((merge_Pairs.f l0 a1).bind fun t159 => (if t157 = true then ((corrieref17_Pairs.f k l0 a1).bind fun t162 => ((corrieref09_Same.f k t159 t162).bind fun t165 => (if t165 = true then ((merge_Rises.f k t159).bind fun t166 => ((corrieref17_Rises.f k t159).bind fun t167 => (some (t166 == t167)))) else (some false)))) else (some false))) else (some t157))) = some r := H
  have A3 := Aside0.mk A30
  clear A30
  replace H := Option.bind_eq_some_iff.mp H
  obtain ⟨t158, A40, H⟩ := H
  replace H : (if t158 = true then ((merge_Pairs.f l0 a1).bind fun t159 => (if t157 = true then ((corrieref17_Pairs.f k l0 a1).bind fun t162 => ((corrieref09_Same.f k t159 t162).bind fun t165 => (if t165 = true then ((merge_Rises.f k t159).bind fun t166 => ((corrieref17_Rises.f k t159).bind fun t167 => (some (t166 == t167)))) else (some false)))) else (some false))) else (some t157)) = some r := H
  have A4 := Aside0.mk A40
  clear A40
  by_cases c5 : t158 = true
  · subst c5
    have H1 : ((merge_Pairs.f l0 a1).bind fun t159 => (if t157 = true then ((corrieref17_Pairs.f k l0 a1).bind fun t162 => ((corrieref09_Same.f k t159 t162).bind fun t165 => (if t165 = true then ((merge_Rises.f k t159).bind fun t166 => ((corrieref17_Rises.f k t159).bind fun t167 => (some (t166 == t167)))) else (some false)))) else (some false))) = some r := by rw [if_pos rfl] at H; exact H
    clear H
    have H := H1
    clear H1
    replace H := Option.bind_eq_some_iff.mp H
    obtain ⟨t159, A60, H⟩ := H
    replace H : (if t157 = true then ((corrieref17_Pairs.f k l0 a1).bind fun t162 => ((corrieref09_Same.f k t159 t162).bind fun t165 => (if t165 = true then ((merge_Rises.f k t159).bind fun t166 => ((corrieref17_Rises.f k t159).bind fun t167 => (some (t166 == t167)))) else (some false)))) else (some false)) = some r := H
    have A6 := Aside0.mk A60
    clear A60
    by_cases c7 : t157 = true
    · subst c7
      have H1 : ((corrieref17_Pairs.f k l0 a1).bind fun t162 => ((corrieref09_Same.f k t159 t162).bind fun t165 => (if t165 = true then ((merge_Rises.f k t159).bind fun t166 => ((corrieref17_Rises.f k t159).bind fun t167 => (some (t166 == t167)))) else (some false)))) = some r := by rw [if_pos rfl] at H; exact H
      clear H
      have H := H1
      clear H1
      replace H := Option.bind_eq_some_iff.mp H
      obtain ⟨t162, A80, H⟩ := H
      replace H : ((corrieref09_Same.f k t159 t162).bind fun t165 => (if t165 = true then ((merge_Rises.f k t159).bind fun t166 => ((corrieref17_Rises.f k t159).bind fun t167 => (some (t166 == t167)))) else (some false))) = some r := H
      have A8 := Aside0.mk A80
      clear A80
      replace H := Option.bind_eq_some_iff.mp H
      obtain ⟨t165, A90, H⟩ := H
      replace H : (if t165 = true then ((merge_Rises.f k t159).bind fun t166 => ((corrieref17_Rises.f k t159).bind fun t167 => (some (t166 == t167)))) else (some false)) = some r := H
      have A9 := Aside0.mk A90
      clear A90
      by_cases c10 : t165 = true
      · subst c10
        have H1 : ((merge_Rises.f k t159).bind fun t166 => ((corrieref17_Rises.f k t159).bind fun t167 => (some (t166 == t167)))) = some r := by rw [if_pos rfl] at H; exact H
        clear H
        have H := H1
        clear H1
        replace H := Option.bind_eq_some_iff.mp H
        obtain ⟨t166, A110, H⟩ := H
        replace H : ((corrieref17_Rises.f k t159).bind fun t167 => (some (t166 == t167))) = some r := H
        have A11 := Aside0.mk A110
        clear A110
        replace H := Option.bind_eq_some_iff.mp H
        obtain ⟨t167, A120, H⟩ := H
        replace H : (some (t166 == t167)) = some r := H
        have A12 := Aside0.mk A120
        clear A120
        obtain rfl := Option.some.inj H
        go_enter Try.func3, Try.ntmps3
        go_wp2_with (first | ((with_reducible refine gate_callee (f := 8) rfl ?_); refine goesL_ (some 7) rfl rfl Try.func8 (by kernel_rfl) rfl #[] rfl (by (try simp only [List.map_toArray, List.map_cons, List.map_nil]); first | done | rfl | (simp only [List.length_drop, List.length_take]; rfl)) ?_; (with_reducible refine (corrielaw17_awake.calls k  true _ A3.out).mono ?_); rintro e w13 ⟨rfl, hb⟩; refine ⟨_, rfl, ?_⟩; have n0_ := Aside0.mk (below_step (by repeat (first | (with_reducible first | exact HB.out | apply below_alloc | apply pw_below_drewN | apply below_drew1) | exact HB.out)) hb); clear HB; have HB := n0_; clear n0_; (try clear hb); (try clear hb2); (try clear hk); (try clear hi)) | ((with_reducible refine gate_callee (f := 9) rfl ?_); refine goesL_ (some 9) rfl rfl Try.func9 (by kernel_rfl) rfl #[.slice A0 l0.length c0] rfl (by (try simp only [List.map_toArray, List.map_cons, List.map_nil]); first | done | rfl | (simp only [List.length_drop, List.length_take]; rfl)) ?_; (with_reducible refine (corrieref17_Few.calls k _ _ l0 true _ ?side1 ?side2 A4.out).mono ?_); (case side1 => repeat (first | exact (Kd.C_below HR0.out HB.out) | (with_reducible refine Kd.C_alloc ?_ _) | (with_reducible refine Kd.C_drewN ?_ _) | (with_reducible refine Kd.C_drew ?_))); (case side2 => exact HC0.out); rintro e w' ⟨rfl, ⟨nd, rfl⟩⟩; refine ⟨_, rfl, ?_⟩) | ((with_reducible refine gate_callee (f := 10) rfl ?_); refine goesL_ (some 14) rfl rfl Try.func10 (by kernel_rfl) rfl #[.slice A0 l0.length c0, .int .i64 a1] rfl (by (try simp only [List.map_toArray, List.map_cons, List.map_nil]); first | done | rfl | (simp only [List.length_drop, List.length_take]; rfl)) ?_; (with_reducible refine (merge_Pairs.calls _ _ l0 a1 t159 _ ?side1 ?side2 A6.out).mono ?_); (case side1 => repeat (first | exact (Kd.C_below HR0.out (by repeat (first | (with_reducible first | exact HB.out | apply below_alloc | apply pw_below_drewN | apply below_drew1) | exact HB.out))) | (with_reducible refine Kd.C_alloc ?_ _) | (with_reducible refine Kd.C_drewN ?_ _) | (with_reducible refine Kd.C_drew ?_))); (case side2 => exact HC0.out); rintro e w14 ⟨v160, rfl, ho0, hb⟩; refine ⟨_, rfl, ?_⟩; have n0_ := Aside0.mk (Kd.R_lower ho0 (below_size (by repeat (first | (with_reducible first | exact HB.out | apply below_alloc | apply pw_below_drewN | apply below_drew1) | exact HB.out)))); have n1_ := Aside0.mk (below_step (by repeat (first | (with_reducible first | exact HB.out | apply below_alloc | apply pw_below_drewN | apply below_drew1) | exact HB.out)) hb); clear HB; have HO161 := n0_; have HB := n1_; clear n0_ n1_; (try clear hb); (try clear hb2); (try clear hk); (try clear hi); (try clear ho0)) | (go_at_call 12; (with_reducible refine (corrieref17_Pairs.calls k (fun k_ => k_ < w.heap.size) _ _ l0 a1 t162 _ ?side1 A8.out).mono ?_); (case side1 => exact Kd.V_mk HC0.out (Kd.F_below (Kd.C_F (Kd.heap_slice 32 k32_heap) HR0.out) (by repeat (first | (with_reducible first | exact HB.out | apply below_alloc | apply pw_below_drewN | apply below_drew1) | exact HB.out)))); rintro e w15 ⟨v163, rfl, ho0, hb⟩; have n0_ := Aside0.mk (Kd.R_elder' (by (with_reducible repeat (first | apply Kd.R_alloc | apply Kd.R_drewN | apply Kd.R_drew)); exact HO161.out) (Kd.R_base ho0) hb); have n1_ := Aside0.mk (Kd.R_lower (Kd.R_new' (Kd.R_mono (ok' := fun k_ => True) ho0 (fun _ hk_ => trivial)) (Kd.R_lt (by (with_reducible repeat (first | apply Kd.R_alloc | apply Kd.R_drewN | apply Kd.R_drew)); exact HO161.out))) (below_size (by repeat (first | (with_reducible first | exact HB.out | apply below_alloc | apply pw_below_drewN | apply below_drew1) | exact HB.out)))); have n2_ := Aside0.mk (below_step (by repeat (first | (with_reducible first | exact HB.out | apply below_alloc | apply pw_below_drewN | apply below_drew1) | exact HB.out)) hb); clear HO161; clear HB; have HO161 := n0_; have HO164 := n1_; have HB := n2_; clear n0_ n1_ n2_; (try clear hb); (try clear hb2); (try clear hk); (try clear hi); (try clear ho0); obtain ⟨Ao16, co16, eo16⟩ := Kd.R_slice HO161.out; subst eo16; obtain ⟨Ao17, co17, eo17⟩ := Kd.R_slice HO164.out; subst eo17) | (go_at_call 11; (with_reducible refine (corrieref09_Same.calls k _ _ t159 _ _ t162 true _ ?side1 ?side2 ?side3 ?side4 A9.out).mono ?_); (case side1 => repeat (first | exact (Kd.R_reads' HO161.out).2.2 | (with_reducible refine Kd.C_alloc ?_ _) | (with_reducible refine Kd.C_drewN ?_ _) | (with_reducible refine Kd.C_drew ?_))); (case side2 => exact (Kd.R_reads' HO161.out).2.1); (case side3 => repeat (first | exact (Kd.R_reads' HO164.out).2.2 | (with_reducible refine Kd.C_alloc ?_ _) | (with_reducible refine Kd.C_drewN ?_ _) | (with_reducible refine Kd.C_drew ?_))); (case side4 => exact (Kd.R_reads' HO164.out).2.1); rintro e w' ⟨rfl, ⟨nd, rfl⟩⟩) | (go_at_call 13; (with_reducible refine (merge_Rises.calls k _ _ t159 t166 _ ?side1 ?side2 A11.out).mono ?_); (case side1 => repeat (first | exact (Kd.R_reads' HO161.out).2.2 | (with_reducible refine Kd.C_alloc ?_ _) | (with_reducible refine Kd.C_drewN ?_ _) | (with_reducible refine Kd.C_drew ?_))); (case side2 => exact (Kd.R_reads' HO161.out).2.1); rintro e w' ⟨rfl, ⟨nd, rfl⟩⟩) | (go_at_call 14; (with_reducible refine (corrieref17_Rises.calls k _ _ t159 t167 _ ?side1 ?side2 A12.out).mono ?_); (case side1 => repeat (first | exact (Kd.R_reads' HO161.out).2.2 | (with_reducible refine Kd.C_alloc ?_ _) | (with_reducible refine Kd.C_drewN ?_ _) | (with_reducible refine Kd.C_drew ?_))); (case side2 => exact (Kd.R_reads' HO161.out).2.1); rintro e w' ⟨rfl, ⟨nd, rfl⟩⟩))
        go_ret
        exact ⟨by first | rfl | (simp [errW_none, errW_some] <;> rfl) | (simp [*, errW_none, errW_some] <;> rfl), by repeat (first | (with_reducible first | exact HB.out | apply below_alloc | apply pw_below_drewN | apply below_drew1) | exact HB.out)⟩
      · replace c10 := Bool.eq_false_iff.mpr c10
        subst c10
        have H1 : (some false) = some r := by rw [if_neg (show ¬ (false = true) by decide)] at H; exact H
        clear H
        have H := H1
        clear H1
        obtain rfl := Option.some.inj H
        go_enter Try.func3, Try.ntmps3
        go_wp2_with (first | ((with_reducible refine gate_callee (f := 8) rfl ?_); refine goesL_ (some 7) rfl rfl Try.func8 (by kernel_rfl) rfl #[] rfl (by (try simp only [List.map_toArray, List.map_cons, List.map_nil]); first | done | rfl | (simp only [List.length_drop, List.length_take]; rfl)) ?_; (with_reducible refine (corrielaw17_awake.calls k  true _ A3.out).mono ?_); rintro e w18 ⟨rfl, hb⟩; refine ⟨_, rfl, ?_⟩; have n0_ := Aside0.mk (below_step (by repeat (first | (with_reducible first | exact HB.out | apply below_alloc | apply pw_below_drewN | apply below_drew1) | exact HB.out)) hb); clear HB; have HB := n0_; clear n0_; (try clear hb); (try clear hb2); (try clear hk); (try clear hi)) | ((with_reducible refine gate_callee (f := 9) rfl ?_); refine goesL_ (some 9) rfl rfl Try.func9 (by kernel_rfl) rfl #[.slice A0 l0.length c0] rfl (by (try simp only [List.map_toArray, List.map_cons, List.map_nil]); first | done | rfl | (simp only [List.length_drop, List.length_take]; rfl)) ?_; (with_reducible refine (corrieref17_Few.calls k _ _ l0 true _ ?side1 ?side2 A4.out).mono ?_); (case side1 => repeat (first | exact (Kd.C_below HR0.out HB.out) | (with_reducible refine Kd.C_alloc ?_ _) | (with_reducible refine Kd.C_drewN ?_ _) | (with_reducible refine Kd.C_drew ?_))); (case side2 => exact HC0.out); rintro e w' ⟨rfl, ⟨nd, rfl⟩⟩; refine ⟨_, rfl, ?_⟩) | ((with_reducible refine gate_callee (f := 10) rfl ?_); refine goesL_ (some 14) rfl rfl Try.func10 (by kernel_rfl) rfl #[.slice A0 l0.length c0, .int .i64 a1] rfl (by (try simp only [List.map_toArray, List.map_cons, List.map_nil]); first | done | rfl | (simp only [List.length_drop, List.length_take]; rfl)) ?_; (with_reducible refine (merge_Pairs.calls _ _ l0 a1 t159 _ ?side1 ?side2 A6.out).mono ?_); (case side1 => repeat (first | exact (Kd.C_below HR0.out (by repeat (first | (with_reducible first | exact HB.out | apply below_alloc | apply pw_below_drewN | apply below_drew1) | exact HB.out))) | (with_reducible refine Kd.C_alloc ?_ _) | (with_reducible refine Kd.C_drewN ?_ _) | (with_reducible refine Kd.C_drew ?_))); (case side2 => exact HC0.out); rintro e w19 ⟨v160, rfl, ho0, hb⟩; refine ⟨_, rfl, ?_⟩; have n0_ := Aside0.mk (Kd.R_lower ho0 (below_size (by repeat (first | (with_reducible first | exact HB.out | apply below_alloc | apply pw_below_drewN | apply below_drew1) | exact HB.out)))); have n1_ := Aside0.mk (below_step (by repeat (first | (with_reducible first | exact HB.out | apply below_alloc | apply pw_below_drewN | apply below_drew1) | exact HB.out)) hb); clear HB; have HO161 := n0_; have HB := n1_; clear n0_ n1_; (try clear hb); (try clear hb2); (try clear hk); (try clear hi); (try clear ho0)) | (go_at_call 12; (with_reducible refine (corrieref17_Pairs.calls k (fun k_ => k_ < w.heap.size) _ _ l0 a1 t162 _ ?side1 A8.out).mono ?_); (case side1 => exact Kd.V_mk HC0.out (Kd.F_below (Kd.C_F (Kd.heap_slice 32 k32_heap) HR0.out) (by repeat (first | (with_reducible first | exact HB.out | apply below_alloc | apply pw_below_drewN | apply below_drew1) | exact HB.out)))); rintro e w20 ⟨v163, rfl, ho0, hb⟩; have n0_ := Aside0.mk (Kd.R_elder' (by (with_reducible repeat (first | apply Kd.R_alloc | apply Kd.R_drewN | apply Kd.R_drew)); exact HO161.out) (Kd.R_base ho0) hb); have n1_ := Aside0.mk (Kd.R_lower (Kd.R_new' (Kd.R_mono (ok' := fun k_ => True) ho0 (fun _ hk_ => trivial)) (Kd.R_lt (by (with_reducible repeat (first | apply Kd.R_alloc | apply Kd.R_drewN | apply Kd.R_drew)); exact HO161.out))) (below_size (by repeat (first | (with_reducible first | exact HB.out | apply below_alloc | apply pw_below_drewN | apply below_drew1) | exact HB.out)))); have n2_ := Aside0.mk (below_step (by repeat (first | (with_reducible first | exact HB.out | apply below_alloc | apply pw_below_drewN | apply below_drew1) | exact HB.out)) hb); clear HO161; clear HB; have HO161 := n0_; have HO164 := n1_; have HB := n2_; clear n0_ n1_ n2_; (try clear hb); (try clear hb2); (try clear hk); (try clear hi); (try clear ho0); obtain ⟨Ao21, co21, eo21⟩ := Kd.R_slice HO161.out; subst eo21; obtain ⟨Ao22, co22, eo22⟩ := Kd.R_slice HO164.out; subst eo22) | (go_at_call 11; (with_reducible refine (corrieref09_Same.calls k _ _ t159 _ _ t162 false _ ?side1 ?side2 ?side3 ?side4 A9.out).mono ?_); (case side1 => repeat (first | exact (Kd.R_reads' HO161.out).2.2 | (with_reducible refine Kd.C_alloc ?_ _) | (with_reducible refine Kd.C_drewN ?_ _) | (with_reducible refine Kd.C_drew ?_))); (case side2 => exact (Kd.R_reads' HO161.out).2.1); (case side3 => repeat (first | exact (Kd.R_reads' HO164.out).2.2 | (with_reducible refine Kd.C_alloc ?_ _) | (with_reducible refine Kd.C_drewN ?_ _) | (with_reducible refine Kd.C_drew ?_))); (case side4 => exact (Kd.R_reads' HO164.out).2.1); rintro e w' ⟨rfl, ⟨nd, rfl⟩⟩))
        go_ret
        exact ⟨by first | rfl | (simp [errW_none, errW_some] <;> rfl) | (simp [*, errW_none, errW_some] <;> rfl), by repeat (first | (with_reducible first | exact HB.out | apply below_alloc | apply pw_below_drewN | apply below_drew1) | exact HB.out)⟩
    · replace c7 := Bool.eq_false_iff.mpr c7
      subst c7
      have H1 : (some false) = some r := by rw [if_neg (show ¬ (false = true) by decide)] at H; exact H
      clear H
      have H := H1
      clear H1
      obtain rfl := Option.some.inj H
      go_enter Try.func3, Try.ntmps3
      go_wp2_with (first | ((with_reducible refine gate_callee (f := 8) rfl ?_); refine goesL_ (some 7) rfl rfl Try.func8 (by kernel_rfl) rfl #[] rfl (by (try simp only [List.map_toArray, List.map_cons, List.map_nil]); first | done | rfl | (simp only [List.length_drop, List.length_take]; rfl)) ?_; (with_reducible refine (corrielaw17_awake.calls k  false _ A3.out).mono ?_); rintro e w23 ⟨rfl, hb⟩; refine ⟨_, rfl, ?_⟩; have n0_ := Aside0.mk (below_step (by repeat (first | (with_reducible first | exact HB.out | apply below_alloc | apply pw_below_drewN | apply below_drew1) | exact HB.out)) hb); clear HB; have HB := n0_; clear n0_; (try clear hb); (try clear hb2); (try clear hk); (try clear hi)) | ((with_reducible refine gate_callee (f := 9) rfl ?_); refine goesL_ (some 9) rfl rfl Try.func9 (by kernel_rfl) rfl #[.slice A0 l0.length c0] rfl (by (try simp only [List.map_toArray, List.map_cons, List.map_nil]); first | done | rfl | (simp only [List.length_drop, List.length_take]; rfl)) ?_; (with_reducible refine (corrieref17_Few.calls k _ _ l0 true _ ?side1 ?side2 A4.out).mono ?_); (case side1 => repeat (first | exact (Kd.C_below HR0.out HB.out) | (with_reducible refine Kd.C_alloc ?_ _) | (with_reducible refine Kd.C_drewN ?_ _) | (with_reducible refine Kd.C_drew ?_))); (case side2 => exact HC0.out); rintro e w' ⟨rfl, ⟨nd, rfl⟩⟩; refine ⟨_, rfl, ?_⟩) | ((with_reducible refine gate_callee (f := 10) rfl ?_); refine goesL_ (some 14) rfl rfl Try.func10 (by kernel_rfl) rfl #[.slice A0 l0.length c0, .int .i64 a1] rfl (by (try simp only [List.map_toArray, List.map_cons, List.map_nil]); first | done | rfl | (simp only [List.length_drop, List.length_take]; rfl)) ?_; (with_reducible refine (merge_Pairs.calls _ _ l0 a1 t159 _ ?side1 ?side2 A6.out).mono ?_); (case side1 => repeat (first | exact (Kd.C_below HR0.out (by repeat (first | (with_reducible first | exact HB.out | apply below_alloc | apply pw_below_drewN | apply below_drew1) | exact HB.out))) | (with_reducible refine Kd.C_alloc ?_ _) | (with_reducible refine Kd.C_drewN ?_ _) | (with_reducible refine Kd.C_drew ?_))); (case side2 => exact HC0.out); rintro e w24 ⟨v160, rfl, ho0, hb⟩; refine ⟨_, rfl, ?_⟩; have n0_ := Aside0.mk (Kd.R_lower ho0 (below_size (by repeat (first | (with_reducible first | exact HB.out | apply below_alloc | apply pw_below_drewN | apply below_drew1) | exact HB.out)))); have n1_ := Aside0.mk (below_step (by repeat (first | (with_reducible first | exact HB.out | apply below_alloc | apply pw_below_drewN | apply below_drew1) | exact HB.out)) hb); clear HB; have HO161 := n0_; have HB := n1_; clear n0_ n1_; (try clear hb); (try clear hb2); (try clear hk); (try clear hi); (try clear ho0)))
      go_ret
      exact ⟨by first | rfl | (simp [errW_none, errW_some] <;> rfl) | (simp [*, errW_none, errW_some] <;> rfl), by repeat (first | (with_reducible first | exact HB.out | apply below_alloc | apply pw_below_drewN | apply below_drew1) | exact HB.out)⟩
  · replace c5 := Bool.eq_false_iff.mpr c5
    subst c5
    have H1 : (some t157) = some r := by rw [if_neg (show ¬ (false = true) by decide)] at H; exact H
    clear H
    have H := H1
    clear H1
    obtain rfl := Option.some.inj H
    go_enter Try.func3, Try.ntmps3
    go_wp2_with (first | ((with_reducible refine gate_callee (f := 8) rfl ?_); refine goesL_ (some 7) rfl rfl Try.func8 (by kernel_rfl) rfl #[] rfl (by (try simp only [List.map_toArray, List.map_cons, List.map_nil]); first | done | rfl | (simp only [List.length_drop, List.length_take]; rfl)) ?_; (with_reducible refine (corrielaw17_awake.calls k  t157 _ A3.out).mono ?_); rintro e w25 ⟨rfl, hb⟩; refine ⟨_, rfl, ?_⟩; have n0_ := Aside0.mk (below_step (by repeat (first | (with_reducible first | exact HB.out | apply below_alloc | apply pw_below_drewN | apply below_drew1) | exact HB.out)) hb); clear HB; have HB := n0_; clear n0_; (try clear hb); (try clear hb2); (try clear hk); (try clear hi)) | ((with_reducible refine gate_callee (f := 9) rfl ?_); refine goesL_ (some 9) rfl rfl Try.func9 (by kernel_rfl) rfl #[.slice A0 l0.length c0] rfl (by (try simp only [List.map_toArray, List.map_cons, List.map_nil]); first | done | rfl | (simp only [List.length_drop, List.length_take]; rfl)) ?_; (with_reducible refine (corrieref17_Few.calls k _ _ l0 false _ ?side1 ?side2 A4.out).mono ?_); (case side1 => repeat (first | exact (Kd.C_below HR0.out HB.out) | (with_reducible refine Kd.C_alloc ?_ _) | (with_reducible refine Kd.C_drewN ?_ _) | (with_reducible refine Kd.C_drew ?_))); (case side2 => exact HC0.out); rintro e w' ⟨rfl, ⟨nd, rfl⟩⟩; refine ⟨_, rfl, ?_⟩))
    go_ret
    exact ⟨by first | rfl | (simp [errW_none, errW_some] <;> rfl) | (simp [*, errW_none, errW_some] <;> rfl), by repeat (first | (with_reducible first | exact HB.out | apply below_alloc | apply pw_below_drewN | apply below_drew1) | exact HB.out)⟩

end Go.Proofs.Ytahifbdggbeajab.PMergePairs
