/- BoundKeeps (chapter 23): every call keeps to its bound; part 2 of the proof: words, walks by an engine, and plain lemmas, each used by the theorem. -/
import Derived.Carry
import Derived.Deep.RegionLaw
import Derived.Lib.AppendZerosOnto
import Derived.Lib.Overlaps
import Derived.Maps.OwnOps
import Derived.Maps.OwnSet
import Derived.Maps.Views
import Derived.WideKeyArgs2
import Derived.Test.YtbhakljebcmocaaK1
set_option linter.unusedVariables false
set_option linter.unusedSimpArgs false
section
namespace Go.Proofs.Ytbhakljebcmocaa.PBoundKeeps
open Go.RowKit Go.Proofs.YtbhakljebcmocaaW.PrintWords Go.Proofs.YtbhakljebcmocaaW.PrintLast Go.Proofs.YtbhakljebcmocaaW.PrintMore
set_option linter.unusedVariables false
set_option linter.unusedSimpArgs false
mutual
def corrieref17_Pairs.l0 : Nat → Int → List (S129) → List (List (S129)) → Option ((List (S129)))
 | 0, _, _, _ => none
 | k + 1, x1, x5, x6 => if (x5.length : Int) < x1 then (corrieref17_Pairs.l1 k x1 x5 x6 (-1) 0) else (some x5)
def corrieref17_Pairs.l1 : Nat → Int → List (S129) → List (List (S129)) → Int → Int → Option ((List (S129)))
 | 0, _, _, _, _, _ => none
 | k + 1, x1, x5, x6, x7, x8 => if x8 < (x6.length : Int) then (if 0 ≤ x8 then (if ((rd_L5 x6 x8).length : Int) > 0 then (if x7 < 0 then (corrieref17_Pairs.l1 k x1 x5 x6 x8 (wrap64 (x8 + 1))) else (if 0 < ((rd_L5 x6 x8).length : Int) then (if 0 ≤ x7 then (if x7 < (x6.length : Int) then (if 0 < ((rd_L5 x6 x7).length : Int) then (if ((rd_T129 (rd_L5 x6 x8) 0).f0) < ((rd_T129 (rd_L5 x6 x7) 0).f0) then (corrieref17_Pairs.l1 k x1 x5 x6 x8 (wrap64 (x8 + 1))) else (corrieref17_Pairs.l1 k x1 x5 x6 x7 (wrap64 (x8 + 1)))) else (none)) else (none)) else (none)) else (none))) else (corrieref17_Pairs.l1 k x1 x5 x6 x7 (wrap64 (x8 + 1)))) else (none)) else (if x7 < 0 then (some x5) else (if 0 ≤ x7 then (if x7 < (x6.length : Int) then (if 0 < ((rd_L5 x6 x7).length : Int) then (if x5.length < 8796093022208 then (if 1 ≤ ((rd_L5 x6 x7).length : Int) then (corrieref17_Pairs.l0 k x1 (x5 ++ [(⟨(rd_T129 (rd_L5 x6 x7) 0).f0, (rd_T129 (rd_L5 x6 x7) 0).f1⟩ : S129)]) (x6.set (x7 : Int).toNat ((rd_L5 x6 x7).drop 1))) else (none)) else (none)) else (none)) else (none)) else (none)))
end
def corrieref17_Pairs.f (k : Nat) (l0 : List (List (S129))) (a1 : Int) : Option ((List (S129))) := (some (([] : List (List (S129))) : List (List (S129)))).bind fun y172 => (if y172.length + l0.length < 5864062014805 then (corrieref17_Pairs.l0 k a1 ([] : List (S129)) (y172 ++ l0)) else (none))
set_option maxHeartbeats 8000000 in
set_option maxRecDepth 100000 in
theorem corrieref17_Pairs.calls (k : Nat) (P0_ : Nat → Prop) (A0 : Option Addr) (c0 : Nat) (l0 : List (List (S129))) (a1 : Int) (r : List (S129)) (w : World) (hs0 : Kd.V (Kd.slice 129 k129) 50 w w.heap.size (fun k_ => P0_ k_) (.slice A0 l0.length c0) l0) (h : corrieref17_Pairs.f k l0 a1 = some r) :
    Calls Try.prog 59 #[.slice A0 l0.length c0, .int .i64 a1] w fun e w' => ∃ v0_ : Value, e = .returned (v0_) ∧ Kd.R k129 129 w' w.heap.size (fun k_ => (w.heap.size ≤ k_)) v0_ r ∧ Below w.heap.size w w' := by
  have hu129 := Try.underlying129
  have HO0 := Aside0.mk (show Kd.V (Kd.slice 129 k129) 50 w w.heap.size (fun k_ => (P0_ k_ ∨ w.heap.size ≤ k_)) (.slice A0 l0.length c0) l0 from Kd.V_mono hs0 (fun k_ hk => .inl hk))
  have HB := Aside0.mk (Below.refl w.heap.size w)
  have H : ((some (([] : List (List (S129))) : List (List (S129)))).bind fun y172 => (if y172.length + l0.length < 5864062014805 then (corrieref17_Pairs.l0 k a1 ([] : List (S129)) (y172 ++ l0)) else (none))) = some r := h
  clear h
  obtain ⟨y172, hy172⟩ : ∃ y_ : List (List (S129)), y_ = (([] : List (List (S129)))) := ⟨_, rfl⟩
  replace H : (if y172.length + l0.length < 5864062014805 then (corrieref17_Pairs.l0 k a1 ([] : List (S129)) (y172 ++ l0)) else (none)) = some r := by first | (rw [hy172]; with_reducible exact H) | (have H2_ := (Option.bind_some _ _).symm.trans H; rw [hy172]; with_reducible exact H2_) | (have H2_ := (Option.bind_some _ _).symm.trans H; with_reducible exact H2_) | with_reducible exact H | (rw [hy172]; exact H) | exact H
  have Ny172 := Aside0.mk hy172
  clear hy172
  by_cases c3 : y172.length + l0.length < 5864062014805
  · rw [if_pos c3] at H
    have LMc3 := Aside0.mk c3
    clear c3
    obtain ⟨y175, hy175⟩ : ∃ y_ : List (List (S129)), y_ = (y172 ++ l0) := ⟨_, rfl⟩
    replace H : (corrieref17_Pairs.l0 k a1 ([] : List (S129)) y175) = some r := by first | (rw [hy175]; with_reducible exact H) | (have H2_ := (Option.bind_some _ _).symm.trans H; rw [hy175]; with_reducible exact H2_) | (have H2_ := (Option.bind_some _ _).symm.trans H; with_reducible exact H2_) | with_reducible exact H | (rw [hy175]; exact H) | exact H
    have Ny175 := Aside0.mk hy175
    clear hy175
    have H' := Aside0.mk H
    clear H
    go_enter Try.func59, Try.ntmps59
    go_wp2_with (first | ((with_reducible refine gate_dst (N := 9) rfl ?_); refine Kd.N_lit (Kd.slice 129 k129) _ 50 ?hg (N' := 9) ?hd (xs := ([] : List (List (S129)))) (inner := []) (ok := (fun k_ => (P0_ k_ ∨ w.heap.size ≤ k_))) (okp := (fun k_ => (P0_ k_ ∨ w.heap.size ≤ k_))) ?hr ?hp (fun _ hk => hk) ((show ∀ k_, w.heap.size ≤ k_ → (fun k_ => (P0_ k_ ∨ w.heap.size ≤ k_)) k_ from fun k_ hk => (.inr (Nat.le_trans (below_size (by repeat (first | (with_reducible first | exact HB.out | apply below_alloc | apply pw_below_drewN | apply below_drew1) | exact HB.out))) hk))) _ (Nat.le_refl _)) (Below.refl _ _) (Nat.le_refl _) (by simp) ?_; (case hd => rfl); (case hg => rfl); (case hr => first | (go_simp; done) | (go_simp; rfl)); (case hp => exact (Reps.none _ _)); intro v173 w4 ho5 hb hg_ hnew_; clear hg_ hnew_; (first | rw [← Ny172.out] at ho5 | (simp only [Int.reduceToNat] at ho5; rw [← Ny172.out] at ho5)); have n0_ := Aside0.mk (Kd.V_elder' (by (with_reducible repeat (first | apply Kd.V_alloc | apply Kd.V_drewN | apply Kd.V_drew)); exact HO0.out) (Kd.N_base ho5) hb); have n1_ := Aside0.mk (Kd.N_lower ho5 (below_size (by repeat (first | (with_reducible first | exact HB.out | apply below_alloc | apply pw_below_drewN | apply below_drew1) | exact HB.out)))); have n2_ := Aside0.mk (below_step (by repeat (first | (with_reducible first | exact HB.out | apply below_alloc | apply pw_below_drewN | apply below_drew1) | exact HB.out)) hb); clear HO0; clear HB; have HO0 := n0_; have HO174 := n1_; have HB := n2_; clear n0_ n1_ n2_; clear hb ho5) | ((with_reducible refine gate_builtin (b := .append) (xs := #[.tmp 9, .tmp 10]) rfl ?_); at_builtin; refine Kd.N_append_rows (Kd.slice 129 k129) (w0 := w) w.heap.size rfl (.tmp 9) (.tmp 10) 83 50 (.slice none 0 0) 24 rfl Try.underlying83 info50 rfl (by decide) (by omega) v173 y172 l0 _ _ _ (fun k_ => (P0_ k_ ∨ w.heap.size ≤ k_)) (fun k_ => ((fun k_ => (P0_ k_ ∨ w.heap.size ≤ k_))) k_ ∧ some k_ ≠ (v173 : Value).ownBlock) rfl rfl ?aO ?aR (fun _ hk => hk) ?aF ?aB ?aS ?aL ?_; (case aR => exact (by skip; exact Kd.V_F (Kd.V_mono (ok' := (fun k_ => ((fun k_ => (P0_ k_ ∨ w.heap.size ≤ k_))) k_ ∧ some k_ ≠ (v173 : Value).ownBlock)) (HO0.out) (fun k_ hk => ⟨hk.1, hk.2⟩)))); (case aB => exact (by repeat (first | (with_reducible first | exact HB.out | apply below_alloc | apply pw_below_drewN | apply below_drew1) | exact HB.out))); (case aF => exact (fun k_ hk => (.inr (Nat.le_trans (below_size (by repeat (first | (with_reducible first | exact HB.out | apply below_alloc | apply pw_below_drewN | apply below_drew1) | exact HB.out))) hk)))); (case aO => exact (by (with_reducible repeat (first | apply Kd.N_alloc | apply Kd.N_drewN | apply Kd.N_drew)); exact HO174.out)); (case aS => exact (below_size (by repeat (first | (with_reducible first | exact HB.out | apply below_alloc | apply pw_below_drewN | apply below_drew1) | exact HB.out)))); (case aL => have := LMc3.out; omega); intro v176 w6 ho hb hg hat; rw [← Ny175.out] at ho; have n0_ := Aside0.mk (Kd.V_afterv (ok := (fun k_ => (P0_ k_ ∨ w.heap.size ≤ k_))) (by (with_reducible repeat (first | apply Kd.V_alloc | apply Kd.V_drewN | apply Kd.V_drew)); exact HO0.out) hg hat); have n1_ := Aside0.mk (hb); have n2_ := Aside0.mk (ho); clear HO0; clear HB; clear HO174; have HO0 := n0_; have HB := n1_; have HO177 := n2_; clear n0_ n1_ n2_; clear ho hb hg hat))
    go_loopg [5] k (fun kq v5 w' => ∃ (x5_1 : List (S129)) (x6_1 : List (List (S129))), Aside0 (corrieref17_Pairs.l0 kq a1 x5_1 x6_1 = some r) ∧ Aside0 (kq ≤ k) ∧ Aside0 (Kd.R k129 129 w' w.heap.size (fun k_ => (w.heap.size ≤ k_)) v5 x5_1) ∧ Aside0 (Kd.N (Kd.slice 129 k129) 50 w' w.heap.size (fun k_ => (P0_ k_ ∨ w.heap.size ≤ k_) ∧ some k_ ≠ (v5 : Value).ownBlock) v176 x6_1) ∧ Aside0 (Below w.heap.size w w'))
    case atStart => exact ⟨(([] : List (S129))), (y175), H', ⟨Nat.le_refl _⟩, ⟨by first | exact Kd.R_nil _ _ _ _ _ | exact Kd.N_nil _ _ _ _ _ | exact Kd.V_nil _ _ _ _ _ | exact Kd.Q_nil _ _ _ _ _ | exact Kd.S_nil _ _ _ _ _⟩, ⟨by (with_reducible repeat (first | apply Kd.N_alloc | apply Kd.N_drewN | apply Kd.N_drew)); exact Kd.N_mono HO177.out (fun _ hk => ⟨hk, (by simp [Value.ownBlock])⟩)⟩, ⟨by repeat (first | (with_reducible first | exact HB.out | apply below_alloc | apply pw_below_drewN | apply below_drew1) | exact HB.out)⟩⟩
    case round =>
      clear H'
      try clear p2
      try clear c3
      try clear c5
      obtain ⟨x5_1, x6_1, HA, HK1, HO_5, HO_6, HB⟩ := hrel
      cases gk with
      | zero => exact absurd HA.out (by simp [corrieref17_Pairs.l0])
      | succ k1 =>
        have H := HA.out
        clear HA
        simp only [corrieref17_Pairs.l0] at H
        by_cases c7 : (x5_1.length : Int) < a1
        · rw [if_pos c7] at H
          have c7b0 : decide ((x5_1.length : Int) < a1) = true := decide_eq_true c7
          clear c7
          have H' := Aside0.mk H
          clear H
          obtain ⟨Ao8, co8, eo8⟩ := Kd.R_slice HO_5.out
          subst eo8
          go_wp2
          repeat (go_quiet (fail); try go_wp2)
          go_loopg [7, 8] k1 (fun kq v7 v8 w' => ∃ (x7_2 : Int) (x8_2 : Int), v7 = .int .i64 x7_2 ∧ v8 = .int .i64 x8_2 ∧ Aside0 (corrieref17_Pairs.l1 kq a1 x5_1 x6_1 x7_2 x8_2 = some r) ∧ Aside0 (kq ≤ k1) ∧ Aside0 (Kd.R k129 129 w' w.heap.size (fun k_ => (w.heap.size ≤ k_)) (.slice Ao8 x5_1.length co8) x5_1) ∧ Aside0 (Kd.N (Kd.slice 129 k129) 50 w' w.heap.size (fun k_ => (P0_ k_ ∨ w.heap.size ≤ k_) ∧ some k_ ≠ ((.slice Ao8 x5_1.length co8) : Value).ownBlock) v176 x6_1) ∧ Aside0 (Below w.heap.size w w'))
          case atStart => exact ⟨((-1)), (0), (by first | rfl | (simp; done) | (simp [*]; done)), (by first | rfl | (simp; done) | (simp [*]; done)), H', ⟨Nat.le_refl _⟩, ⟨by (with_reducible repeat (first | apply Kd.R_alloc | apply Kd.R_drewN | apply Kd.R_drew)); exact HO_5.out⟩, ⟨by (with_reducible repeat (first | apply Kd.N_alloc | apply Kd.N_drewN | apply Kd.N_drew)); exact HO_6.out⟩, ⟨by repeat (first | (with_reducible first | exact HB.out | apply below_alloc | apply pw_below_drewN | apply below_drew1) | exact HB.out)⟩⟩
          case round =>
            clear H'
            try clear p2
            try clear c3
            try clear c5
            try clear c7
            try clear c7b0
            try clear p2
            obtain ⟨x7_2, x8_2, rfl, rfl, HA, HK2, HO_5, HO_6, HB⟩ := hrel
            cases gk with
            | zero => exact absurd HA.out (by simp [corrieref17_Pairs.l1])
            | succ k2 =>
              have H := HA.out
              clear HA
              simp only [corrieref17_Pairs.l1] at H
              by_cases c9 : x8_2 < (x6_1.length : Int)
              · rw [if_pos c9] at H
                have c9b0 : decide (x8_2 < (x6_1.length : Int)) = true := decide_eq_true c9
                clear c9
                by_cases c10 : 0 ≤ x8_2
                · rw [if_pos c10] at H
                  have c10b0 : decide (0 ≤ x8_2) = true := decide_eq_true c10
                  clear c10
                  by_cases c11 : ((rd_L5 x6_1 x8_2).length : Int) > 0
                  · rw [if_pos c11] at H
                    have c11b0 : decide (0 < ((rd_L5 x6_1 x8_2).length : Int)) = true := decide_eq_true c11
                    have c11b1 : decide (0 < (rd_L5 x6_1 x8_2).length) = true := decide_eq_true (by omega)
                    clear c11
                    by_cases c12 : x7_2 < 0
                    · rw [if_pos c12] at H
                      have c12b0 : decide (x7_2 < 0) = true := decide_eq_true c12
                      clear c12
                      have H' := Aside0.mk H
                      clear H
                      obtain ⟨Ao13, co13, eo13⟩ := Kd.N_slice HO_6.out
                      subst eo13
                      have p178 : 0 ≤ (x8_2 : Int) := of_decide_eq_true (by first | (with_reducible assumption) | assumption)
                      have q178 : x8_2 < (x6_1.length : Int) := of_decide_eq_true (by first | (with_reducible assumption) | assumption)
                      obtain ⟨ad178, A178_0, c178_0, e178, hx178_0, hl178_0, hi178_0⟩ := at_L5 (Kd.N_reads' HO_6.out).2.2 x8_2 p178 q178
                      cases e178
                      obtain ⟨ce178, hce178, hMe178, hcc178⟩ := Kd.N_get HO_6.out [] x8_2 p178 (by first | exact q178 | exact of_decide_eq_true (by first | (with_reducible assumption) | assumption) | (have e_ := (Kd.N_reads' HO_6.out).1; omega))
                      obtain ⟨ua178_0, uc178_0, rfl, ul178_0, ge178_0⟩ := Kd.FK_slice_open hMe178
                      have hv178_0 := hcc178 0 _ rfl
                      rw [Nat.add_zero, show ((Kd.slice 129 k129)).sz = 1 from rfl, Nat.mul_one] at hv178_0
                      replace hv178_0 := Option.some.inj (hv178_0.symm.trans hx178_0)
                      injection hv178_0 with hva_ hvn_ hvc_
                      rw [hva_] at ge178_0
                      rw [hvc_] at ul178_0
                      have HL178_0 := Aside0.mk (show Kd.V k129 129 _ w.heap.size _ _ (rd_L5 x6_1 x8_2) from Kd.V_mk ul178_0 ge178_0)
                      clear hva_ hvn_ hvc_ ge178_0 ul178_0
                      clear hcc178 hce178
                      have HR178_0 := Aside0.mk hi178_0
                      have HC178_0 := Aside0.mk hl178_0
                      clear hi178_0 hl178_0
                      replace p178 := eq_true p178
                      replace q178 := eq_true q178
                      go_wp2
                      repeat (go_quiet (fail); try go_wp2)
                      go_roundg k2
                      case measure => have := HK1.out; have := HK2.out; omega
                      case rel => exact ⟨(x8_2), (wrap64 (x8_2 + 1)), (by first | rfl | (simp; done) | (simp [*]; done)), (by first | rfl | (simp; done) | (simp [*]; done)), H', ⟨by have := HK1.out; have := HK2.out; omega⟩, ⟨by (with_reducible repeat (first | apply Kd.R_alloc | apply Kd.R_drewN | apply Kd.R_drew)); exact HO_5.out⟩, ⟨by (with_reducible repeat (first | apply Kd.N_alloc | apply Kd.N_drewN | apply Kd.N_drew)); exact HO_6.out⟩, ⟨by repeat (first | (with_reducible first | exact HB.out | apply below_alloc | apply pw_below_drewN | apply below_drew1) | exact HB.out)⟩⟩
                    · rw [if_neg c12] at H
                      have c12b0 : decide (x7_2 < 0) = false := decide_eq_false c12
                      clear c12
                      by_cases c14 : 0 < ((rd_L5 x6_1 x8_2).length : Int)
                      · rw [if_pos c14] at H
                        have c14b0 : decide (0 < ((rd_L5 x6_1 x8_2).length : Int)) = true := decide_eq_true c14
                        have c14b1 : decide (0 < (rd_L5 x6_1 x8_2).length) = true := decide_eq_true (by omega)
                        clear c14
                        by_cases c15 : 0 ≤ x7_2
                        · rw [if_pos c15] at H
                          have c15b0 : decide (0 ≤ x7_2) = true := decide_eq_true c15
                          clear c15
                          by_cases c16 : x7_2 < (x6_1.length : Int)
                          · rw [if_pos c16] at H
                            have c16b0 : decide (x7_2 < (x6_1.length : Int)) = true := decide_eq_true c16
                            clear c16
                            by_cases c17 : 0 < ((rd_L5 x6_1 x7_2).length : Int)
                            · rw [if_pos c17] at H
                              have c17b0 : decide (0 < ((rd_L5 x6_1 x7_2).length : Int)) = true := decide_eq_true c17
                              have c17b1 : decide (0 < (rd_L5 x6_1 x7_2).length) = true := decide_eq_true (by omega)
                              clear c17
                              by_cases c18 : ((rd_T129 (rd_L5 x6_1 x8_2) 0).f0) < ((rd_T129 (rd_L5 x6_1 x7_2) 0).f0)
                              · rw [if_pos c18] at H
                                have c18b0 : decide (((rd_T129 (rd_L5 x6_1 x8_2) 0).f0) < ((rd_T129 (rd_L5 x6_1 x7_2) 0).f0)) = true := decide_eq_true c18
                                clear c18
                                have H' := Aside0.mk H
                                clear H
                                obtain ⟨Ao19, co19, eo19⟩ := Kd.N_slice HO_6.out
                                subst eo19
                                have p178 : 0 ≤ (x8_2 : Int) := of_decide_eq_true (by first | (with_reducible assumption) | assumption)
                                have q178 : x8_2 < (x6_1.length : Int) := of_decide_eq_true (by first | (with_reducible assumption) | assumption)
                                obtain ⟨ad178, A178_0, c178_0, e178, hx178_0, hl178_0, hi178_0⟩ := at_L5 (Kd.N_reads' HO_6.out).2.2 x8_2 p178 q178
                                cases e178
                                obtain ⟨ce178, hce178, hMe178, hcc178⟩ := Kd.N_get HO_6.out [] x8_2 p178 (by first | exact q178 | exact of_decide_eq_true (by first | (with_reducible assumption) | assumption) | (have e_ := (Kd.N_reads' HO_6.out).1; omega))
                                obtain ⟨ua178_0, uc178_0, rfl, ul178_0, ge178_0⟩ := Kd.FK_slice_open hMe178
                                have hv178_0 := hcc178 0 _ rfl
                                rw [Nat.add_zero, show ((Kd.slice 129 k129)).sz = 1 from rfl, Nat.mul_one] at hv178_0
                                replace hv178_0 := Option.some.inj (hv178_0.symm.trans hx178_0)
                                injection hv178_0 with hva_ hvn_ hvc_
                                rw [hva_] at ge178_0
                                rw [hvc_] at ul178_0
                                have HL178_0 := Aside0.mk (show Kd.V k129 129 _ w.heap.size _ _ (rd_L5 x6_1 x8_2) from Kd.V_mk ul178_0 ge178_0)
                                clear hva_ hvn_ hvc_ ge178_0 ul178_0
                                clear hcc178 hce178
                                have HR178_0 := Aside0.mk hi178_0
                                have HC178_0 := Aside0.mk hl178_0
                                clear hi178_0 hl178_0
                                replace p178 := eq_true p178
                                replace q178 := eq_true q178
                                have p179 : 0 ≤ (x8_2 : Int) := of_decide_eq_true (by first | (with_reducible assumption) | assumption)
                                have q179 : x8_2 < (x6_1.length : Int) := of_decide_eq_true (by first | (with_reducible assumption) | assumption)
                                obtain ⟨ad179, A179_0, c179_0, e179, hx179_0, hl179_0, hi179_0⟩ := at_L5 (Kd.N_reads' HO_6.out).2.2 x8_2 p179 q179
                                obtain rfl : ad178 = ad179 := (by injection e179)
                                obtain ⟨ce179, hce179, hMe179, hcc179⟩ := Kd.N_get HO_6.out [] x8_2 p179 (by first | exact q179 | exact of_decide_eq_true (by first | (with_reducible assumption) | assumption) | (have e_ := (Kd.N_reads' HO_6.out).1; omega))
                                obtain ⟨ua179_0, uc179_0, rfl, ul179_0, ge179_0⟩ := Kd.FK_slice_open hMe179
                                have hv179_0 := hcc179 0 _ rfl
                                rw [Nat.add_zero, show ((Kd.slice 129 k129)).sz = 1 from rfl, Nat.mul_one] at hv179_0
                                replace hv179_0 := Option.some.inj (hv179_0.symm.trans hx179_0)
                                injection hv179_0 with hva_ hvn_ hvc_
                                rw [hva_] at ge179_0
                                rw [hvc_] at ul179_0
                                have HL179_0 := Aside0.mk (show Kd.V k129 129 _ w.heap.size _ _ (rd_L5 x6_1 x8_2) from Kd.V_mk ul179_0 ge179_0)
                                clear hva_ hvn_ hvc_ ge179_0 ul179_0
                                clear hcc179 hce179
                                have HR179_0 := Aside0.mk hi179_0
                                have HC179_0 := Aside0.mk hl179_0
                                clear hi179_0 hl179_0
                                replace p179 := eq_true p179
                                replace q179 := eq_true q179
                                have ea_ := Option.some.inj (hx178_0.symm.trans hx179_0)
                                injection ea_ with ea_ en_ ec_
                                subst ea_
                                subst ec_
                                clear en_
                                have p180 : 0 ≤ (0 : Int) := (by omega)
                                have q180 : 0 < ((rd_L5 x6_1 x8_2).length : Int) := of_decide_eq_true (by first | (with_reducible assumption) | assumption)
                                obtain ⟨ad180, e180, hx180_0, hx180_1⟩ := at_T129 (by repeat (first | (with_reducible exact HR179_0.out) | (with_reducible refine Kd.C_alloc ?_ _) | (with_reducible refine Kd.C_drewN ?_ _) | (with_reducible refine Kd.C_drew ?_) | exact HR179_0.out)) 0 p180 q180
                                cases e180
                                have qi180 : (0 < (rd_L5 x6_1 x8_2).length) = True := eq_true (by omega)
                                (try rw [show ((0 : Int)).toNat = 0 from rfl] at hx180_0)
                                (try rw [show 0 * 2 = 0 from rfl] at hx180_0)
                                (try rw [Addr.add_zero'] at hx180_0)
                                (try rw [show ((0 : Int)).toNat = 0 from rfl] at hx180_1)
                                (try rw [show 0 * 2 = 0 from rfl] at hx180_1)
                                (try rw [Addr.add_zero'] at hx180_1)
                                replace p180 := eq_true p180
                                replace q180 := eq_true q180
                                have p181 : 0 ≤ (x7_2 : Int) := of_decide_eq_true (by first | (with_reducible assumption) | assumption)
                                have q181 : x7_2 < (x6_1.length : Int) := of_decide_eq_true (by first | (with_reducible assumption) | assumption)
                                obtain ⟨ad181, A181_0, c181_0, e181, hx181_0, hl181_0, hi181_0⟩ := at_L5 (Kd.N_reads' HO_6.out).2.2 x7_2 p181 q181
                                obtain rfl : ad178 = ad181 := (by injection e181)
                                obtain ⟨ce181, hce181, hMe181, hcc181⟩ := Kd.N_get HO_6.out [] x7_2 p181 (by first | exact q181 | exact of_decide_eq_true (by first | (with_reducible assumption) | assumption) | (have e_ := (Kd.N_reads' HO_6.out).1; omega))
                                obtain ⟨ua181_0, uc181_0, rfl, ul181_0, ge181_0⟩ := Kd.FK_slice_open hMe181
                                have hv181_0 := hcc181 0 _ rfl
                                rw [Nat.add_zero, show ((Kd.slice 129 k129)).sz = 1 from rfl, Nat.mul_one] at hv181_0
                                replace hv181_0 := Option.some.inj (hv181_0.symm.trans hx181_0)
                                injection hv181_0 with hva_ hvn_ hvc_
                                rw [hva_] at ge181_0
                                rw [hvc_] at ul181_0
                                have HL181_0 := Aside0.mk (show Kd.V k129 129 _ w.heap.size _ _ (rd_L5 x6_1 x7_2) from Kd.V_mk ul181_0 ge181_0)
                                clear hva_ hvn_ hvc_ ge181_0 ul181_0
                                clear hcc181 hce181
                                have HR181_0 := Aside0.mk hi181_0
                                have HC181_0 := Aside0.mk hl181_0
                                clear hi181_0 hl181_0
                                replace p181 := eq_true p181
                                replace q181 := eq_true q181
                                have p182 : 0 ≤ (0 : Int) := (by omega)
                                have q182 : 0 < ((rd_L5 x6_1 x7_2).length : Int) := of_decide_eq_true (by first | (with_reducible assumption) | assumption)
                                obtain ⟨ad182, e182, hx182_0, hx182_1⟩ := at_T129 (by repeat (first | (with_reducible exact HR181_0.out) | (with_reducible refine Kd.C_alloc ?_ _) | (with_reducible refine Kd.C_drewN ?_ _) | (with_reducible refine Kd.C_drew ?_) | exact HR181_0.out)) 0 p182 q182
                                cases e182
                                have qi182 : (0 < (rd_L5 x6_1 x7_2).length) = True := eq_true (by omega)
                                (try rw [show ((0 : Int)).toNat = 0 from rfl] at hx182_0)
                                (try rw [show 0 * 2 = 0 from rfl] at hx182_0)
                                (try rw [Addr.add_zero'] at hx182_0)
                                (try rw [show ((0 : Int)).toNat = 0 from rfl] at hx182_1)
                                (try rw [show 0 * 2 = 0 from rfl] at hx182_1)
                                (try rw [Addr.add_zero'] at hx182_1)
                                replace p182 := eq_true p182
                                replace q182 := eq_true q182
                                go_wp2
                                repeat (go_quiet (fail); try go_wp2)
                                go_roundg k2
                                case measure => have := HK1.out; have := HK2.out; omega
                                case rel => exact ⟨(x8_2), (wrap64 (x8_2 + 1)), (by first | rfl | (simp; done) | (simp [*]; done)), (by first | rfl | (simp; done) | (simp [*]; done)), H', ⟨by have := HK1.out; have := HK2.out; omega⟩, ⟨by (with_reducible repeat (first | apply Kd.R_alloc | apply Kd.R_drewN | apply Kd.R_drew)); exact HO_5.out⟩, ⟨by (with_reducible repeat (first | apply Kd.N_alloc | apply Kd.N_drewN | apply Kd.N_drew)); exact HO_6.out⟩, ⟨by repeat (first | (with_reducible first | exact HB.out | apply below_alloc | apply pw_below_drewN | apply below_drew1) | exact HB.out)⟩⟩
                              · rw [if_neg c18] at H
                                have c18b0 : decide (((rd_T129 (rd_L5 x6_1 x8_2) 0).f0) < ((rd_T129 (rd_L5 x6_1 x7_2) 0).f0)) = false := decide_eq_false c18
                                clear c18
                                have H' := Aside0.mk H
                                clear H
                                obtain ⟨Ao20, co20, eo20⟩ := Kd.N_slice HO_6.out
                                subst eo20
                                have p178 : 0 ≤ (x8_2 : Int) := of_decide_eq_true (by first | (with_reducible assumption) | assumption)
                                have q178 : x8_2 < (x6_1.length : Int) := of_decide_eq_true (by first | (with_reducible assumption) | assumption)
                                obtain ⟨ad178, A178_0, c178_0, e178, hx178_0, hl178_0, hi178_0⟩ := at_L5 (Kd.N_reads' HO_6.out).2.2 x8_2 p178 q178
                                cases e178
                                obtain ⟨ce178, hce178, hMe178, hcc178⟩ := Kd.N_get HO_6.out [] x8_2 p178 (by first | exact q178 | exact of_decide_eq_true (by first | (with_reducible assumption) | assumption) | (have e_ := (Kd.N_reads' HO_6.out).1; omega))
                                obtain ⟨ua178_0, uc178_0, rfl, ul178_0, ge178_0⟩ := Kd.FK_slice_open hMe178
                                have hv178_0 := hcc178 0 _ rfl
                                rw [Nat.add_zero, show ((Kd.slice 129 k129)).sz = 1 from rfl, Nat.mul_one] at hv178_0
                                replace hv178_0 := Option.some.inj (hv178_0.symm.trans hx178_0)
                                injection hv178_0 with hva_ hvn_ hvc_
                                rw [hva_] at ge178_0
                                rw [hvc_] at ul178_0
                                have HL178_0 := Aside0.mk (show Kd.V k129 129 _ w.heap.size _ _ (rd_L5 x6_1 x8_2) from Kd.V_mk ul178_0 ge178_0)
                                clear hva_ hvn_ hvc_ ge178_0 ul178_0
                                clear hcc178 hce178
                                have HR178_0 := Aside0.mk hi178_0
                                have HC178_0 := Aside0.mk hl178_0
                                clear hi178_0 hl178_0
                                replace p178 := eq_true p178
                                replace q178 := eq_true q178
                                have p179 : 0 ≤ (x8_2 : Int) := of_decide_eq_true (by first | (with_reducible assumption) | assumption)
                                have q179 : x8_2 < (x6_1.length : Int) := of_decide_eq_true (by first | (with_reducible assumption) | assumption)
                                obtain ⟨ad179, A179_0, c179_0, e179, hx179_0, hl179_0, hi179_0⟩ := at_L5 (Kd.N_reads' HO_6.out).2.2 x8_2 p179 q179
                                obtain rfl : ad178 = ad179 := (by injection e179)
                                obtain ⟨ce179, hce179, hMe179, hcc179⟩ := Kd.N_get HO_6.out [] x8_2 p179 (by first | exact q179 | exact of_decide_eq_true (by first | (with_reducible assumption) | assumption) | (have e_ := (Kd.N_reads' HO_6.out).1; omega))
                                obtain ⟨ua179_0, uc179_0, rfl, ul179_0, ge179_0⟩ := Kd.FK_slice_open hMe179
                                have hv179_0 := hcc179 0 _ rfl
                                rw [Nat.add_zero, show ((Kd.slice 129 k129)).sz = 1 from rfl, Nat.mul_one] at hv179_0
                                replace hv179_0 := Option.some.inj (hv179_0.symm.trans hx179_0)
                                injection hv179_0 with hva_ hvn_ hvc_
                                rw [hva_] at ge179_0
                                rw [hvc_] at ul179_0
                                have HL179_0 := Aside0.mk (show Kd.V k129 129 _ w.heap.size _ _ (rd_L5 x6_1 x8_2) from Kd.V_mk ul179_0 ge179_0)
                                clear hva_ hvn_ hvc_ ge179_0 ul179_0
                                clear hcc179 hce179
                                have HR179_0 := Aside0.mk hi179_0
                                have HC179_0 := Aside0.mk hl179_0
                                clear hi179_0 hl179_0
                                replace p179 := eq_true p179
                                replace q179 := eq_true q179
                                have ea_ := Option.some.inj (hx178_0.symm.trans hx179_0)
                                injection ea_ with ea_ en_ ec_
                                subst ea_
                                subst ec_
                                clear en_
                                have p180 : 0 ≤ (0 : Int) := (by omega)
                                have q180 : 0 < ((rd_L5 x6_1 x8_2).length : Int) := of_decide_eq_true (by first | (with_reducible assumption) | assumption)
                                obtain ⟨ad180, e180, hx180_0, hx180_1⟩ := at_T129 (by repeat (first | (with_reducible exact HR179_0.out) | (with_reducible refine Kd.C_alloc ?_ _) | (with_reducible refine Kd.C_drewN ?_ _) | (with_reducible refine Kd.C_drew ?_) | exact HR179_0.out)) 0 p180 q180
                                cases e180
                                have qi180 : (0 < (rd_L5 x6_1 x8_2).length) = True := eq_true (by omega)
                                (try rw [show ((0 : Int)).toNat = 0 from rfl] at hx180_0)
                                (try rw [show 0 * 2 = 0 from rfl] at hx180_0)
                                (try rw [Addr.add_zero'] at hx180_0)
                                (try rw [show ((0 : Int)).toNat = 0 from rfl] at hx180_1)
                                (try rw [show 0 * 2 = 0 from rfl] at hx180_1)
                                (try rw [Addr.add_zero'] at hx180_1)
                                replace p180 := eq_true p180
                                replace q180 := eq_true q180
                                have p181 : 0 ≤ (x7_2 : Int) := of_decide_eq_true (by first | (with_reducible assumption) | assumption)
                                have q181 : x7_2 < (x6_1.length : Int) := of_decide_eq_true (by first | (with_reducible assumption) | assumption)
                                obtain ⟨ad181, A181_0, c181_0, e181, hx181_0, hl181_0, hi181_0⟩ := at_L5 (Kd.N_reads' HO_6.out).2.2 x7_2 p181 q181
                                obtain rfl : ad178 = ad181 := (by injection e181)
                                obtain ⟨ce181, hce181, hMe181, hcc181⟩ := Kd.N_get HO_6.out [] x7_2 p181 (by first | exact q181 | exact of_decide_eq_true (by first | (with_reducible assumption) | assumption) | (have e_ := (Kd.N_reads' HO_6.out).1; omega))
                                obtain ⟨ua181_0, uc181_0, rfl, ul181_0, ge181_0⟩ := Kd.FK_slice_open hMe181
                                have hv181_0 := hcc181 0 _ rfl
                                rw [Nat.add_zero, show ((Kd.slice 129 k129)).sz = 1 from rfl, Nat.mul_one] at hv181_0
                                replace hv181_0 := Option.some.inj (hv181_0.symm.trans hx181_0)
                                injection hv181_0 with hva_ hvn_ hvc_
                                rw [hva_] at ge181_0
                                rw [hvc_] at ul181_0
                                have HL181_0 := Aside0.mk (show Kd.V k129 129 _ w.heap.size _ _ (rd_L5 x6_1 x7_2) from Kd.V_mk ul181_0 ge181_0)
                                clear hva_ hvn_ hvc_ ge181_0 ul181_0
                                clear hcc181 hce181
                                have HR181_0 := Aside0.mk hi181_0
                                have HC181_0 := Aside0.mk hl181_0
                                clear hi181_0 hl181_0
                                replace p181 := eq_true p181
                                replace q181 := eq_true q181
                                have p182 : 0 ≤ (0 : Int) := (by omega)
                                have q182 : 0 < ((rd_L5 x6_1 x7_2).length : Int) := of_decide_eq_true (by first | (with_reducible assumption) | assumption)
                                obtain ⟨ad182, e182, hx182_0, hx182_1⟩ := at_T129 (by repeat (first | (with_reducible exact HR181_0.out) | (with_reducible refine Kd.C_alloc ?_ _) | (with_reducible refine Kd.C_drewN ?_ _) | (with_reducible refine Kd.C_drew ?_) | exact HR181_0.out)) 0 p182 q182
                                cases e182
                                have qi182 : (0 < (rd_L5 x6_1 x7_2).length) = True := eq_true (by omega)
                                (try rw [show ((0 : Int)).toNat = 0 from rfl] at hx182_0)
                                (try rw [show 0 * 2 = 0 from rfl] at hx182_0)
                                (try rw [Addr.add_zero'] at hx182_0)
                                (try rw [show ((0 : Int)).toNat = 0 from rfl] at hx182_1)
                                (try rw [show 0 * 2 = 0 from rfl] at hx182_1)
                                (try rw [Addr.add_zero'] at hx182_1)
                                replace p182 := eq_true p182
                                replace q182 := eq_true q182
                                go_wp2
                                repeat (go_quiet (fail); try go_wp2)
                                go_roundg k2
                                case measure => have := HK1.out; have := HK2.out; omega
                                case rel => exact ⟨(x7_2), (wrap64 (x8_2 + 1)), (by first | rfl | (simp; done) | (simp [*]; done)), (by first | rfl | (simp; done) | (simp [*]; done)), H', ⟨by have := HK1.out; have := HK2.out; omega⟩, ⟨by (with_reducible repeat (first | apply Kd.R_alloc | apply Kd.R_drewN | apply Kd.R_drew)); exact HO_5.out⟩, ⟨by (with_reducible repeat (first | apply Kd.N_alloc | apply Kd.N_drewN | apply Kd.N_drew)); exact HO_6.out⟩, ⟨by repeat (first | (with_reducible first | exact HB.out | apply below_alloc | apply pw_below_drewN | apply below_drew1) | exact HB.out)⟩⟩
                            · rw [if_neg c17] at H
                              exact absurd H (by simp)
                          · rw [if_neg c16] at H
                            exact absurd H (by simp)
                        · rw [if_neg c15] at H
                          exact absurd H (by simp)
                      · rw [if_neg c14] at H
                        exact absurd H (by simp)
                  · rw [if_neg c11] at H
                    have c11b0 : decide (0 < ((rd_L5 x6_1 x8_2).length : Int)) = false := decide_eq_false c11
                    have c11b1 : decide (0 < (rd_L5 x6_1 x8_2).length) = false := decide_eq_false (by omega)
                    clear c11
                    have H' := Aside0.mk H
                    clear H
                    obtain ⟨Ao21, co21, eo21⟩ := Kd.N_slice HO_6.out
                    subst eo21
                    have p178 : 0 ≤ (x8_2 : Int) := of_decide_eq_true (by first | (with_reducible assumption) | assumption)
                    have q178 : x8_2 < (x6_1.length : Int) := of_decide_eq_true (by first | (with_reducible assumption) | assumption)
                    obtain ⟨ad178, A178_0, c178_0, e178, hx178_0, hl178_0, hi178_0⟩ := at_L5 (Kd.N_reads' HO_6.out).2.2 x8_2 p178 q178
                    cases e178
                    obtain ⟨ce178, hce178, hMe178, hcc178⟩ := Kd.N_get HO_6.out [] x8_2 p178 (by first | exact q178 | exact of_decide_eq_true (by first | (with_reducible assumption) | assumption) | (have e_ := (Kd.N_reads' HO_6.out).1; omega))
                    obtain ⟨ua178_0, uc178_0, rfl, ul178_0, ge178_0⟩ := Kd.FK_slice_open hMe178
                    have hv178_0 := hcc178 0 _ rfl
                    rw [Nat.add_zero, show ((Kd.slice 129 k129)).sz = 1 from rfl, Nat.mul_one] at hv178_0
                    replace hv178_0 := Option.some.inj (hv178_0.symm.trans hx178_0)
                    injection hv178_0 with hva_ hvn_ hvc_
                    rw [hva_] at ge178_0
                    rw [hvc_] at ul178_0
                    have HL178_0 := Aside0.mk (show Kd.V k129 129 _ w.heap.size _ _ (rd_L5 x6_1 x8_2) from Kd.V_mk ul178_0 ge178_0)
                    clear hva_ hvn_ hvc_ ge178_0 ul178_0
                    clear hcc178 hce178
                    have HR178_0 := Aside0.mk hi178_0
                    have HC178_0 := Aside0.mk hl178_0
                    clear hi178_0 hl178_0
                    replace p178 := eq_true p178
                    replace q178 := eq_true q178
                    go_wp2
                    repeat (go_quiet (fail); try go_wp2)
                    go_roundg k2
                    case measure => have := HK1.out; have := HK2.out; omega
                    case rel => exact ⟨(x7_2), (wrap64 (x8_2 + 1)), (by first | rfl | (simp; done) | (simp [*]; done)), (by first | rfl | (simp; done) | (simp [*]; done)), H', ⟨by have := HK1.out; have := HK2.out; omega⟩, ⟨by (with_reducible repeat (first | apply Kd.R_alloc | apply Kd.R_drewN | apply Kd.R_drew)); exact HO_5.out⟩, ⟨by (with_reducible repeat (first | apply Kd.N_alloc | apply Kd.N_drewN | apply Kd.N_drew)); exact HO_6.out⟩, ⟨by repeat (first | (with_reducible first | exact HB.out | apply below_alloc | apply pw_below_drewN | apply below_drew1) | exact HB.out)⟩⟩
                · rw [if_neg c10] at H
                  exact absurd H (by simp)
              · rw [if_neg c9] at H
                have c9b0 : decide (x8_2 < (x6_1.length : Int)) = false := decide_eq_false c9
                clear c9
                by_cases c22 : x7_2 < 0
                · rw [if_pos c22] at H
                  have c22b0 : decide (x7_2 < 0) = true := decide_eq_true c22
                  clear c22
                  obtain rfl := Option.some.inj H
                  obtain ⟨Ao23, co23, eo23⟩ := Kd.N_slice HO_6.out
                  subst eo23
                  go_wp2
                  repeat (go_quiet (fail); try go_wp2)
                  go_ret
                  exact ⟨_, by first | rfl | (simp [errW_none, errW_some] <;> rfl) | (simp [*, errW_none, errW_some] <;> rfl), by (with_reducible repeat (first | apply Kd.R_alloc | apply Kd.R_drewN | apply Kd.R_drew)); exact HO_5.out, by repeat (first | (with_reducible first | exact HB.out | apply below_alloc | apply pw_below_drewN | apply below_drew1) | exact HB.out)⟩
                · rw [if_neg c22] at H
                  have c22b0 : decide (x7_2 < 0) = false := decide_eq_false c22
                  clear c22
                  by_cases c24 : 0 ≤ x7_2
                  · rw [if_pos c24] at H
                    have c24b0 : decide (0 ≤ x7_2) = true := decide_eq_true c24
                    clear c24
                    by_cases c25 : x7_2 < (x6_1.length : Int)
                    · rw [if_pos c25] at H
                      have c25b0 : decide (x7_2 < (x6_1.length : Int)) = true := decide_eq_true c25
                      clear c25
                      by_cases c26 : 0 < ((rd_L5 x6_1 x7_2).length : Int)
                      · rw [if_pos c26] at H
                        have c26b0 : decide (0 < ((rd_L5 x6_1 x7_2).length : Int)) = true := decide_eq_true c26
                        have c26b1 : decide (0 < (rd_L5 x6_1 x7_2).length) = true := decide_eq_true (by omega)
                        clear c26
                        by_cases c27 : x5_1.length < 8796093022208
                        · rw [if_pos c27] at H
                          have LMc27 := Aside0.mk c27
                          clear c27
                          obtain ⟨y185, hy185⟩ : ∃ y_ : List (S129), y_ = (x5_1 ++ [(⟨(rd_T129 (rd_L5 x6_1 x7_2) 0).f0, (rd_T129 (rd_L5 x6_1 x7_2) 0).f1⟩ : S129)]) := ⟨_, rfl⟩
                          replace H : (if 1 ≤ ((rd_L5 x6_1 x7_2).length : Int) then (corrieref17_Pairs.l0 k2 a1 y185 (x6_1.set (x7_2 : Int).toNat ((rd_L5 x6_1 x7_2).drop 1))) else (none)) = some r := by first | (rw [hy185]; with_reducible exact H) | (have H2_ := (Option.bind_some _ _).symm.trans H; rw [hy185]; with_reducible exact H2_) | (have H2_ := (Option.bind_some _ _).symm.trans H; with_reducible exact H2_) | with_reducible exact H | (rw [hy185]; exact H) | exact H
                          have Ny185 := Aside0.mk hy185
                          clear hy185
                          by_cases c28 : 1 ≤ ((rd_L5 x6_1 x7_2).length : Int)
                          · rw [if_pos c28] at H
                            have c28b0 := eq_true c28
                            have c28b1 : decide (1 ≤ ((rd_L5 x6_1 x7_2).length : Int)) = true := decide_eq_true c28
                            clear c28
                            obtain ⟨y189, hy189⟩ : ∃ y_ : List (S129), y_ = ((rd_L5 x6_1 x7_2).drop 1) := ⟨_, rfl⟩
                            replace H : (corrieref17_Pairs.l0 k2 a1 y185 (x6_1.set (x7_2 : Int).toNat y189)) = some r := by first | (rw [hy189]; with_reducible exact H) | (have H2_ := (Option.bind_some _ _).symm.trans H; rw [hy189]; with_reducible exact H2_) | (have H2_ := (Option.bind_some _ _).symm.trans H; with_reducible exact H2_) | with_reducible exact H | (rw [hy189]; exact H) | exact H
                            have Ny189 := Aside0.mk hy189
                            clear hy189
                            obtain ⟨y194, hy194⟩ : ∃ y_ : List (List (S129)), y_ = (x6_1.set (x7_2 : Int).toNat y189) := ⟨_, rfl⟩
                            replace H : (corrieref17_Pairs.l0 k2 a1 y185 y194) = some r := by first | (rw [hy194]; with_reducible exact H) | (have H2_ := (Option.bind_some _ _).symm.trans H; rw [hy194]; with_reducible exact H2_) | (have H2_ := (Option.bind_some _ _).symm.trans H; with_reducible exact H2_) | with_reducible exact H | (rw [hy194]; exact H) | exact H
                            have Ny194 := Aside0.mk hy194
                            clear hy194
                            have H' := Aside0.mk H
                            clear H
                            obtain ⟨Ao30, co30, eo30⟩ := Kd.N_slice HO_6.out
                            subst eo30
                            have p183 : 0 ≤ (x7_2 : Int) := of_decide_eq_true (by first | (with_reducible assumption) | assumption)
                            have q183 : x7_2 < (x6_1.length : Int) := of_decide_eq_true (by first | (with_reducible assumption) | assumption)
                            obtain ⟨ad183, A183_0, c183_0, e183, hx183_0, hl183_0, hi183_0⟩ := at_L5 (Kd.N_reads' HO_6.out).2.2 x7_2 p183 q183
                            cases e183
                            obtain ⟨ce183, hce183, hMe183, hcc183⟩ := Kd.N_get HO_6.out [] x7_2 p183 (by first | exact q183 | exact of_decide_eq_true (by first | (with_reducible assumption) | assumption) | (have e_ := (Kd.N_reads' HO_6.out).1; omega))
                            obtain ⟨ua183_0, uc183_0, rfl, ul183_0, ge183_0⟩ := Kd.FK_slice_open hMe183
                            have hv183_0 := hcc183 0 _ rfl
                            rw [Nat.add_zero, show ((Kd.slice 129 k129)).sz = 1 from rfl, Nat.mul_one] at hv183_0
                            replace hv183_0 := Option.some.inj (hv183_0.symm.trans hx183_0)
                            injection hv183_0 with hva_ hvn_ hvc_
                            rw [hva_] at ge183_0
                            rw [hvc_] at ul183_0
                            have HL183_0 := Aside0.mk (show Kd.V k129 129 _ w.heap.size _ _ (rd_L5 x6_1 x7_2) from Kd.V_mk ul183_0 ge183_0)
                            clear hva_ hvn_ hvc_ ge183_0 ul183_0
                            clear hcc183 hce183
                            have HR183_0 := Aside0.mk hi183_0
                            have HC183_0 := Aside0.mk hl183_0
                            clear hi183_0 hl183_0
                            replace p183 := eq_true p183
                            replace q183 := eq_true q183
                            have p184 : 0 ≤ (0 : Int) := (by omega)
                            have q184 : 0 < ((rd_L5 x6_1 x7_2).length : Int) := of_decide_eq_true (by first | (with_reducible assumption) | assumption)
                            obtain ⟨ad184, e184, hx184_0, hx184_1⟩ := at_T129 (by repeat (first | (with_reducible exact HR183_0.out) | (with_reducible refine Kd.C_alloc ?_ _) | (with_reducible refine Kd.C_drewN ?_ _) | (with_reducible refine Kd.C_drew ?_) | exact HR183_0.out)) 0 p184 q184
                            cases e184
                            have qi184 : (0 < (rd_L5 x6_1 x7_2).length) = True := eq_true (by omega)
                            (try rw [show ((0 : Int)).toNat = 0 from rfl] at hx184_0)
                            (try rw [show 0 * 2 = 0 from rfl] at hx184_0)
                            (try rw [Addr.add_zero'] at hx184_0)
                            (try rw [show ((0 : Int)).toNat = 0 from rfl] at hx184_1)
                            (try rw [show 0 * 2 = 0 from rfl] at hx184_1)
                            (try rw [Addr.add_zero'] at hx184_1)
                            replace p184 := eq_true p184
                            replace q184 := eq_true q184
                            go_wp2_with (first | ((with_reducible refine gate_builtin (b := .append) (xs := #[.tmp 53, .tmp 60]) rfl ?_); at_builtin; refine Kd.R_append k129 (w0 := w) w.heap.size rfl (.tmp 53) (.tmp 60) 50 129 (.agg #[(.int .u64 0), (.int .u64 0)]) 16 rfl Try.underlying50 info129 rfl (by decide) (by omega) (.slice Ao8 x5_1.length co8) x5_1 (⟨(rd_T129 (rd_L5 x6_1 x7_2) 0).f0, (rd_T129 (rd_L5 x6_1 x7_2) 0).f1⟩ : S129) [.int .u64 ((rd_T129 (rd_L5 x6_1 x7_2) 0).f0), .int .u64 ((rd_T129 (rd_L5 x6_1 x7_2) 0).f1)] (fun k_ => (w.heap.size ≤ k_)) (fun _ => False) rfl rfl ?aP (fun _ hk => hk.elim) ?aF ?aO ?aB ?aS ?aL ?_; (case aP => exact k129_mkM _ _ _ (⟨(rd_T129 (rd_L5 x6_1 x7_2) 0).f0, (rd_T129 (rd_L5 x6_1 x7_2) 0).f1⟩ : S129)); (case aB => exact (by repeat (first | (with_reducible first | exact HB.out | apply below_alloc | apply pw_below_drewN | apply below_drew1) | exact HB.out))); (case aF => exact (fun k_ hk => (Nat.le_trans (below_size (by repeat (first | (with_reducible first | exact HB.out | apply below_alloc | apply pw_below_drewN | apply below_drew1) | exact HB.out))) hk))); (case aO => exact (by (with_reducible repeat (first | apply Kd.R_alloc | apply Kd.R_drewN | apply Kd.R_drew)); exact HO_5.out)); (case aS => exact (below_size (by repeat (first | (with_reducible first | exact HB.out | apply below_alloc | apply pw_below_drewN | apply below_drew1) | exact HB.out)))); (case aL => have := LMc27.out; omega); intro v186 w31 ho hb hg hat; rw [← Ny185.out] at ho; have n0_ := Aside0.mk (Kd.N_afterv (ok := (fun k_ => (P0_ k_ ∨ w.heap.size ≤ k_))) (by (with_reducible repeat (first | apply Kd.N_alloc | apply Kd.N_drewN | apply Kd.N_drew)); exact HO_6.out) hg hat); have n1_ := Aside0.mk (Kd.V_afterv (ok := (fun k_ => (P0_ k_ ∨ w.heap.size ≤ k_) ∧ some k_ ≠ (.slice (some ad183) x6_1.length co30 : Value).ownBlock)) (by (with_reducible repeat (first | apply Kd.V_alloc | apply Kd.V_drewN | apply Kd.V_drew)); exact Kd.V_mono HL183_0.out (fun _ hk => ⟨⟨hk.1.1, hk.2⟩, hk.1.2⟩)) hg hat); have n2_ := Aside0.mk (hb); have n3_ := Aside0.mk (ho); clear HO_6; clear HL183_0; clear HB; clear HO_5; have HO_6 := n0_; have HL183_0 := n1_; have HB := n2_; have HO187 := n3_; clear n0_ n1_ n2_ n3_; clear ho hb hg hat; have p188 : 0 ≤ (x7_2 : Int) := of_decide_eq_true (by first | (with_reducible assumption) | assumption); have q188 : x7_2 < (x6_1.length : Int) := of_decide_eq_true (by first | (with_reducible assumption) | assumption); obtain ⟨ad188, A188_0, c188_0, e188, hx188_0, hl188_0, hi188_0⟩ := at_L5 (Kd.N_reads' HO_6.out).2.2 x7_2 p188 q188; obtain rfl : ad183 = ad188 := (by injection e188); obtain ⟨ce188, hce188, hMe188, hcc188⟩ := Kd.N_get HO_6.out [] x7_2 p188 (by first | exact q188 | exact of_decide_eq_true (by first | (with_reducible assumption) | assumption) | (have e_ := (Kd.N_reads' HO_6.out).1; omega)); obtain ⟨ua188_0, uc188_0, rfl, ul188_0, ge188_0⟩ := Kd.FK_slice_open hMe188; have hv188_0 := hcc188 0 _ rfl; rw [Nat.add_zero, show ((Kd.slice 129 k129)).sz = 1 from rfl, Nat.mul_one] at hv188_0; replace hv188_0 := Option.some.inj (hv188_0.symm.trans hx188_0); injection hv188_0 with hva_ hvn_ hvc_; rw [hva_] at ge188_0; rw [hvc_] at ul188_0; have HL188_0 := Aside0.mk (show Kd.V k129 129 _ w.heap.size _ _ (rd_L5 x6_1 x7_2) from Kd.V_mk ul188_0 ge188_0); clear hva_ hvn_ hvc_ ge188_0 ul188_0; clear hcc188 hce188; have HR188_0 := Aside0.mk hi188_0; have HC188_0 := Aside0.mk hl188_0; clear hi188_0 hl188_0; replace p188 := eq_true p188; replace q188 := eq_true q188; have q32 : (1 : Int) ≤ (((rd_L5 x6_1 x7_2).length : Int) : Int) := of_decide_eq_true (by first | (with_reducible assumption) | assumption); obtain ⟨i032, hi032, _, hsz32, _⟩ := info_parts info129; have hroom32 : (rd_L5 x6_1 x7_2).length ≤ c188_0 := HC188_0.out; have hC32 : Kd.F k129 _ _ A188_0 (rd_L5 x6_1 x7_2).length (rd_L5 x6_1 x7_2) := (Kd.V_at (base := w.heap.size) HL188_0.out).2.2; have hcut32 := cut_from (P := Try.prog) 50 129 .i64 Try.underlying50 hi032 2 hsz32 A188_0 (rd_L5 x6_1 x7_2).length c188_0 1 (by omega) q32; have hr32 := Kd.F_cut (m := (1 : Int).toNat) (c := c188_0) hC32 (by omega) hroom32; obtain ⟨A32, hA32⟩ : ∃ A1, A1 = (if c188_0 = (1 : Int).toNat then A188_0 else (A188_0 : Option Addr).map (·.add ((1 : Int).toNat * 2))) := ⟨_, rfl⟩; obtain ⟨c32, hc32⟩ : ∃ c1, c1 = c188_0 - (1 : Int).toNat := ⟨_, rfl⟩; have hy32 : y189.length = (rd_L5 x6_1 x7_2).length - (1 : Int).toNat := (by rw [Ny189.out, List.length_drop] <;> omega); rw [show (rd_L5 x6_1 x7_2).drop (1 : Int).toNat = y189 from Ny189.out.symm] at hr32; replace hr32 : Kd.F k129 _ _ A32 y189.length y189 := (by rw [hA32]; exact hr32); rw [← hy32, ← hA32, ← hc32] at hcut32; have HO193 := Aside0.mk (show Kd.V k129 129 _ w.heap.size _ (.slice A32 y189.length c32) y189 from Kd.V_mk (by rw [hy32, hc32]; exact Nat.sub_le_sub_right hroom32 _) hr32); have HC193 := Aside0.mk (show y189.length ≤ c32 from by rw [hy32, hc32]; exact Nat.sub_le_sub_right hroom32 _); clear hr32 hC32 hroom32 hi032 hsz32 hc32; have KY32 := Aside0.mk hy32; have KA32 := Aside0.mk hA32; clear hy32 hA32; replace q32 := eq_true q32; have p29 : 0 ≤ (x7_2 : Int) := of_decide_eq_true (by first | (with_reducible assumption) | assumption); have q29 : (x7_2 : Int) < ((x6_1.length : Int) : Int) := of_decide_eq_true (by first | (with_reducible assumption) | assumption); obtain ⟨go29, co29, eo29, gb29, gl29, cl29, HG29⟩ := Kd.N_form HO_6.out (by omega); (first | cases eo29 | (injection eo29 with ea_ en_ ec_; (first | subst ea_ | (injection ea_ with ea_; subst ea_)); subst ec_; clear en_)); have GB29 := Aside0.mk gb29; have GG29 := Aside0.mk HG29; clear gb29 gl29 HG29; (first | simp only [add_plain] at hx183_0 | skip); (first | simp only [add_plain] at hx188_0 | skip); obtain ⟨ce29, hcl29, hM29, hcc29, hfr29⟩ := Kd.N_elem HO_6.out [] (x7_2 : Int) p29 q29; obtain ⟨ua29_0, uc29_0, rfl, ul29_0, ge29_0⟩ := Kd.FK_slice_open hM29; have hx29_0 := hcc29 0 _ rfl; have hf29_0 := hfr29 0; (try simp only [show ((Kd.slice 129 k129)).sz = 1 from rfl, Nat.mul_one, Nat.add_zero] at hx29_0); (try simp only [show ((Kd.slice 129 k129)).sz = 1 from rfl, Nat.mul_one, Nat.add_zero] at hf29_0); clear hcl29 hcc29 hfr29 hM29; replace p29 := eq_true p29; replace q29 := eq_true q29; have HX33 := Aside0.mk (show Kd.N (Kd.slice 129 k129) 50 w31 w.heap.size (fun k_ => (P0_ k_ ∨ w.heap.size ≤ k_) ∧ some k_ ≠ (v186 : Value).ownBlock) (.slice (some ⟨go29, 0, none⟩) x6_1.length co30) x6_1 from (by (with_reducible repeat (first | apply Kd.N_alloc | apply Kd.N_drewN | apply Kd.N_drew)); exact HO_6.out)); obtain ⟨ce33, hcl33, hM33, hcc33, hfr33⟩ := Kd.N_elem HX33.out [] (x7_2 : Int) (of_decide_eq_true (by first | (with_reducible assumption) | assumption)) (by have h_ : (x7_2 : Int) < ((x6_1.length : Int) : Int) := of_decide_eq_true (by first | (with_reducible assumption) | assumption); first | exact h_ | (have e_ := (Kd.N_reads' HO_6.out).1; omega) | simpa using h_); obtain ⟨ua33_0, uc33_0, rfl, ul33_0, ge33_0⟩ := Kd.FK_slice_open hM33; have HP33 := Kd.N_seg HX33.out (x7_2 : Int) (of_decide_eq_true (by first | (with_reducible assumption) | assumption)) (by have h_ : (x7_2 : Int) < ((x6_1.length : Int) : Int) := of_decide_eq_true (by first | (with_reducible assumption) | assumption); first | exact h_ | (have e_ := (Kd.N_reads' HO_6.out).1; omega) | simpa using h_) (seg := [.slice A32 y189.length c32]) (j := 0) hcl33 hcc33 (show 1 ≤ 1 from by decide) (x' := y189) (Kd.FK_slice_mk (Kd.V_reads' (Kd.V_mono (ok' := (fun k_ => ((fun k_ => (P0_ k_ ∨ w.heap.size ≤ k_) ∧ some k_ ≠ (v186 : Value).ownBlock)) k_ ∧ k_ ≠ go29)) (HO193.out) (fun k_ hk => ⟨⟨hk.1.1, hk.1.2⟩, fun e_ => (hk.2) (by rw [e_]; rfl)⟩))).2.1 (Kd.V_F (Kd.V_mono (ok' := (fun k_ => ((fun k_ => (P0_ k_ ∨ w.heap.size ≤ k_) ∧ some k_ ≠ (v186 : Value).ownBlock)) k_ ∧ k_ ≠ go29)) (HO193.out) (fun k_ hk => ⟨⟨hk.1.1, hk.1.2⟩, fun e_ => (hk.2) (by rw [e_]; rfl)⟩)))) (fun _ hk => hk); have hx33_0 := hcc33 0 _ rfl; (try simp only [show ((Kd.slice 129 k129)).sz = 1 from rfl, Nat.mul_one, Nat.add_zero] at hx33_0); have hf33_0 := hfr33 0; (try simp only [show ((Kd.slice 129 k129)).sz = 1 from rfl, Nat.mul_one, Nat.add_zero] at hf33_0); clear hcl33 hcc33 hfr33 hM33; (try simp only [show ((Kd.slice 129 k129)).sz = 1 from rfl, Nat.mul_one, Nat.add_zero] at HP33); (try simp only [show ((Kd.slice 129 k129)).sz = 1 from rfl, Nat.mul_one, Nat.add_zero] at HP33)) | ((with_reducible refine gate_store (t := 50) (p := 69) rfl ?_); (try (rw [drewN_self w31]; generalize hq_ : World.drewN w31 _ = w31; have n0_ := Aside0.mk (Kd.N_at hq_ HO_6.out); have n1_ := Aside0.mk (Kd.V_at hq_ HL183_0.out); have n2_ := Aside0.mk (Kd.R_at hq_ HO187.out); have n3_ := Aside0.mk (Kd.V_at hq_ HL188_0.out); have n4_ := Aside0.mk (Kd.V_at hq_ HO193.out); have n5_ := Aside0.mk (below_at hq_ HB.out); clear hq_ HO_6 HL183_0 HO187 HL188_0 HO193 HB; have HO_6 := n0_; have HL183_0 := n1_; have HO187 := n2_; have HL188_0 := n3_; have HO193 := n4_; have HB := n5_; clear n0_ n1_ n2_ n3_ n4_ n5_; (try (have HX33 := Aside0.mk (show Kd.N (Kd.slice 129 k129) 50 w31 w.heap.size (fun k_ => (P0_ k_ ∨ w.heap.size ≤ k_) ∧ some k_ ≠ (v186 : Value).ownBlock) (.slice (some ⟨go29, 0, none⟩) x6_1.length co30) x6_1 from (by (with_reducible repeat (first | apply Kd.N_alloc | apply Kd.N_drewN | apply Kd.N_drew)); exact HO_6.out)))); (try (obtain ⟨ce33, hcl33, hM33, hcc33, hfr33⟩ := Kd.N_elem HX33.out [] (x7_2 : Int) (of_decide_eq_true (by first | (with_reducible assumption) | assumption)) (by have h_ : (x7_2 : Int) < ((x6_1.length : Int) : Int) := of_decide_eq_true (by first | (with_reducible assumption) | assumption); first | exact h_ | (have e_ := (Kd.N_reads' HO_6.out).1; omega) | simpa using h_))); (try (obtain ⟨ua33_0, uc33_0, rfl, ul33_0, ge33_0⟩ := Kd.FK_slice_open hM33)); (try (have HP33 := Kd.N_seg HX33.out (x7_2 : Int) (of_decide_eq_true (by first | (with_reducible assumption) | assumption)) (by have h_ : (x7_2 : Int) < ((x6_1.length : Int) : Int) := of_decide_eq_true (by first | (with_reducible assumption) | assumption); first | exact h_ | (have e_ := (Kd.N_reads' HO_6.out).1; omega) | simpa using h_) (seg := [.slice A32 y189.length c32]) (j := 0) hcl33 hcc33 (show 1 ≤ 1 from by decide) (x' := y189) (Kd.FK_slice_mk (Kd.V_reads' (Kd.V_mono (ok' := (fun k_ => ((fun k_ => (P0_ k_ ∨ w.heap.size ≤ k_) ∧ some k_ ≠ (v186 : Value).ownBlock)) k_ ∧ k_ ≠ go29)) (HO193.out) (fun k_ hk => ⟨⟨hk.1.1, hk.1.2⟩, fun e_ => (hk.2) (by rw [e_]; rfl)⟩))).2.1 (Kd.V_F (Kd.V_mono (ok' := (fun k_ => ((fun k_ => (P0_ k_ ∨ w.heap.size ≤ k_) ∧ some k_ ≠ (v186 : Value).ownBlock)) k_ ∧ k_ ≠ go29)) (HO193.out) (fun k_ hk => ⟨⟨hk.1.1, hk.1.2⟩, fun e_ => (hk.2) (by rw [e_]; rfl)⟩)))) (fun _ hk => hk))); (try (have hx33_0 := hcc33 0 _ rfl)); (try (try simp only [show ((Kd.slice 129 k129)).sz = 1 from rfl, Nat.mul_one, Nat.add_zero] at hx33_0)); (try (have hf33_0 := hfr33 0)); (try (try simp only [show ((Kd.slice 129 k129)).sz = 1 from rfl, Nat.mul_one, Nat.add_zero] at hf33_0)); (try (clear hcl33 hcc33 hfr33 hM33)); (try (try simp only [show ((Kd.slice 129 k129)).sz = 1 from rfl, Nat.mul_one, Nat.add_zero] at HP33)); (try (try simp only [show ((Kd.slice 129 k129)).sz = 1 from rfl, Nat.mul_one, Nat.add_zero] at HP33)))); refine store_event (t := 50) (p := 69) (v := ?vo_w34) (w1 := (w31.setCell ⟨go29, (x7_2 : Int).toNat, none⟩ (.slice A32 y189.length c32))) ?hg ?ho ?hn ?hr ?_; (case ho => rfl); (case hg => rfl); (case hn => rfl); (case hr => first | (go_simp; done) | (go_simp; rfl)); intro w34 hw; have hg : w31.grownBy w34 (some go29) := (by rw [hw]; exact HP33.2); have hp_ : Kd.N (Kd.slice 129 k129) 50 w34 w.heap.size (fun k_ => (P0_ k_ ∨ w.heap.size ≤ k_) ∧ some k_ ≠ (v186 : Value).ownBlock) (.slice (some ⟨go29, 0, none⟩) x6_1.length co30) y194 := (by rw [hw, Ny194.out]; exact HP33.1); clear HP33; have n0_ := Aside0.mk (hp_); have n1_ := Aside0.mk (Kd.V_afterv (v := (.slice (some ⟨go29, 0, none⟩) x6_1.length co30)) (v1 := (.slice (some ⟨go29, 0, none⟩) x6_1.length co30)) (ok := (fun k_ => (P0_ k_ ∨ w.heap.size ≤ k_) ∧ some k_ ≠ (v186 : Value).ownBlock)) (by (with_reducible repeat (first | apply Kd.V_alloc | apply Kd.V_drewN | apply Kd.V_drew)); exact Kd.V_mono HL183_0.out (fun _ hk => ⟨⟨hk.1.1, hk.2⟩, hk.1.2⟩)) hg (.inl rfl)); have n2_ := Aside0.mk (Kd.R_over' (v := (.slice (some ⟨go29, 0, none⟩) x6_1.length co30)) (by (with_reducible repeat (first | apply Kd.R_alloc | apply Kd.R_drewN | apply Kd.R_drew)); exact HO187.out) (Kd.N_typed HO_6.out) (by decide) hg); have n3_ := Aside0.mk (Kd.V_afterv (v := (.slice (some ⟨go29, 0, none⟩) x6_1.length co30)) (v1 := (.slice (some ⟨go29, 0, none⟩) x6_1.length co30)) (ok := (fun k_ => (P0_ k_ ∨ w.heap.size ≤ k_) ∧ some k_ ≠ (v186 : Value).ownBlock)) (by (with_reducible repeat (first | apply Kd.V_alloc | apply Kd.V_drewN | apply Kd.V_drew)); exact HL188_0.out) hg (.inl rfl)); have n4_ := Aside0.mk (Kd.V_afterv (v := (.slice (some ⟨go29, 0, none⟩) x6_1.length co30)) (v1 := (.slice (some ⟨go29, 0, none⟩) x6_1.length co30)) (ok := (fun k_ => (P0_ k_ ∨ w.heap.size ≤ k_) ∧ some k_ ≠ (v186 : Value).ownBlock)) (by (with_reducible repeat (first | apply Kd.V_alloc | apply Kd.V_drewN | apply Kd.V_drew)); exact HO193.out) hg (.inl rfl)); have n5_ := Aside0.mk ((by rw [hw]; exact below_set (HB.out) GB29.out : Below w.heap.size w w34)); clear HO_6; clear HL183_0; clear HO187; clear HL188_0; clear HO193; clear HB; have HO_6 := n0_; have HL183_0 := n1_; have HO187 := n2_; have HL188_0 := n3_; have HO193 := n4_; have HB := n5_; clear n0_ n1_ n2_ n3_ n4_ n5_; clear hg hw hp_))
                            go_roundg k2
                            case measure => have := HK1.out; have := HK2.out; omega
                            case rel => exact ⟨(y185), (y194), H', ⟨by have := HK1.out; have := HK2.out; omega⟩, ⟨by (with_reducible repeat (first | apply Kd.R_alloc | apply Kd.R_drewN | apply Kd.R_drew)); exact HO187.out⟩, ⟨by (with_reducible repeat (first | apply Kd.N_alloc | apply Kd.N_drewN | apply Kd.N_drew)); exact HO_6.out⟩, ⟨by repeat (first | (with_reducible first | exact HB.out | apply below_alloc | apply pw_below_drewN | apply below_drew1) | exact HB.out)⟩⟩
                          · rw [if_neg c28] at H
                            exact absurd H (by simp)
                        · rw [if_neg c27] at H
                          exact absurd H (by simp)
                      · rw [if_neg c26] at H
                        exact absurd H (by simp)
                    · rw [if_neg c25] at H
                      exact absurd H (by simp)
                  · rw [if_neg c24] at H
                    exact absurd H (by simp)
        · rw [if_neg c7] at H
          have c7b0 : decide ((x5_1.length : Int) < a1) = false := decide_eq_false c7
          clear c7
          obtain rfl := Option.some.inj H
          obtain ⟨Ao35, co35, eo35⟩ := Kd.R_slice HO_5.out
          subst eo35
          go_wp2
          repeat (go_quiet (fail); try go_wp2)
          go_ret
          exact ⟨_, by first | rfl | (simp [errW_none, errW_some] <;> rfl) | (simp [*, errW_none, errW_some] <;> rfl), by (with_reducible repeat (first | apply Kd.R_alloc | apply Kd.R_drewN | apply Kd.R_drew)); exact HO_5.out, by repeat (first | (with_reducible first | exact HB.out | apply below_alloc | apply pw_below_drewN | apply below_drew1) | exact HB.out)⟩
  · rw [if_neg c3] at H
    exact absurd H (by simp)
end Go.Proofs.Ytbhakljebcmocaa.PBoundKeeps
end
section
namespace Go.Proofs.Ytbhakljebcmocaa.PBoundKeeps
open Go.RowKit Go.Proofs.YtbhakljebcmocaaW.PrintWords Go.Proofs.YtbhakljebcmocaaW.PrintLast Go.Proofs.YtbhakljebcmocaaW.PrintMore
set_option linter.unusedVariables false
set_option linter.unusedSimpArgs false
def corrieref03_Bucket.l0 : Nat → Int → Int → Int → Option (Int)
 | 0, _, _, _ => none
 | k + 1, x5, x6, x7 => if x7 > 1 then (if x5 ≥ 9223372036854775808 then (corrieref03_Bucket.l0 k (IntKind.u64.wrap (2 * x5)) (wrap64 ((wrap64 (2 * x6)) + 1)) (wrap64 (Int.tdiv x7 2))) else (corrieref03_Bucket.l0 k (IntKind.u64.wrap (2 * x5)) (wrap64 (2 * x6)) (wrap64 (Int.tdiv x7 2)))) else (some x6)
def corrieref03_Bucket.f (k : Nat) (a0 : Int) (a1 : Int) : Option (Int) := (corrieref03_May.f a1).bind fun t219 => (if t219 = true then (corrieref03_Bucket.l0 k (IntKind.u64.wrap (a0 * 11400714819323198485)) 0 a1) else (some 0))
set_option maxHeartbeats 8000000 in
set_option maxRecDepth 100000 in
theorem corrieref03_Bucket.calls (k : Nat) (a0 : Int) (a1 : Int) (r : Int) (w : World) (h : corrieref03_Bucket.f k a0 a1 = some r) :
    Calls Try.prog 101 #[.int .u64 a0, .int .i64 a1] w fun e w' => e = .returned (.int .i64 r) ∧ Drawn0 w w' := by
  have H : ((corrieref03_May.f a1).bind fun t219 => (if t219 = true then (corrieref03_Bucket.l0 k (IntKind.u64.wrap (a0 * 11400714819323198485)) 0 a1) else (some 0))) = some r := h
  clear h
  replace H := Option.bind_eq_some_iff.mp H
  obtain ⟨t219, A30, H⟩ := H
  replace H : (if t219 = true then (corrieref03_Bucket.l0 k (IntKind.u64.wrap (a0 * 11400714819323198485)) 0 a1) else (some 0)) = some r := H
  have A3 := Aside0.mk A30
  clear A30
  by_cases c4 : t219 = true
  · subst c4
    have H1 : (corrieref03_Bucket.l0 k (IntKind.u64.wrap (a0 * 11400714819323198485)) 0 a1) = some r := by rw [if_pos rfl] at H; exact H
    clear H
    have H := H1
    clear H1
    have H' := Aside0.mk H
    clear H
    go_enter Try.func101, Try.ntmps101
    go_wp2_with (first | ((with_reducible refine gate_callee (f := 18) rfl ?_); refine goesL_ (some 9) rfl rfl Try.func18 (by kernel_rfl) rfl #[.int .i64 a1] rfl (by (try simp only [List.map_toArray, List.map_cons, List.map_nil]); first | done | rfl | (simp only [List.length_drop, List.length_take]; rfl)) ?_; (with_reducible refine (corrieref03_May.calls a1 true _ A3.out).mono ?_); rintro e w' ⟨rfl, ⟨nd, rfl⟩⟩; refine ⟨_, rfl, ?_⟩))
    go_loopg [5, 6, 7] k (fun kq v5 v6 v7 w' => ∃ (x5_1 : Int) (x6_1 : Int) (x7_1 : Int), v5 = .int .u64 x5_1 ∧ v6 = .int .i64 x6_1 ∧ v7 = .int .i64 x7_1 ∧ Aside0 (corrieref03_Bucket.l0 kq x5_1 x6_1 x7_1 = some r) ∧ Aside0 (kq ≤ k) ∧ Drawn0 w w')
    case atStart => exact ⟨(IntKind.u64.wrap (a0 * 11400714819323198485)), (0), (a1), (by first | rfl | (simp; done) | (simp [*]; done)), (by first | rfl | (simp; done) | (simp [*]; done)), (by first | rfl | (simp; done) | (simp [*]; done)), H', ⟨Nat.le_refl _⟩, by repeat (first | exact Drawn0.refl _ | apply Drawn0.step)⟩
    case round =>
      clear H'
      try clear c1
      try clear p2
      try clear c4
      obtain ⟨x5_1, x6_1, x7_1, rfl, rfl, rfl, HA, HK1, ⟨m1, rfl⟩⟩ := hrel
      cases gk with
      | zero => exact absurd HA.out (by simp [corrieref03_Bucket.l0])
      | succ k1 =>
        have H := HA.out
        clear HA
        simp only [corrieref03_Bucket.l0] at H
        by_cases c5 : x7_1 > 1
        · rw [if_pos c5] at H
          have c5b0 : decide (1 < x7_1) = true := decide_eq_true c5
          clear c5
          by_cases c6 : x5_1 ≥ 9223372036854775808
          · rw [if_pos c6] at H
            have c6b0 : decide (9223372036854775808 ≤ x5_1) = true := decide_eq_true c6
            clear c6
            have H' := Aside0.mk H
            clear H
            go_wp2
            go_roundg k1
            case measure => have := HK1.out; omega
            case rel => exact ⟨(IntKind.u64.wrap (2 * x5_1)), (wrap64 ((wrap64 (2 * x6_1)) + 1)), (wrap64 (Int.tdiv x7_1 2)), (by first | rfl | (simp; done) | (simp [*]; done)), (by first | rfl | (simp; done) | (simp [*]; done)), (by first | rfl | (simp; done) | (simp [*]; done)), H', ⟨by have := HK1.out; omega⟩, by repeat (first | exact Drawn0.refl _ | apply Drawn0.step)⟩
          · rw [if_neg c6] at H
            have c6b0 : decide (9223372036854775808 ≤ x5_1) = false := decide_eq_false c6
            clear c6
            have H' := Aside0.mk H
            clear H
            go_wp2
            go_roundg k1
            case measure => have := HK1.out; omega
            case rel => exact ⟨(IntKind.u64.wrap (2 * x5_1)), (wrap64 (2 * x6_1)), (wrap64 (Int.tdiv x7_1 2)), (by first | rfl | (simp; done) | (simp [*]; done)), (by first | rfl | (simp; done) | (simp [*]; done)), (by first | rfl | (simp; done) | (simp [*]; done)), H', ⟨by have := HK1.out; omega⟩, by repeat (first | exact Drawn0.refl _ | apply Drawn0.step)⟩
        · rw [if_neg c5] at H
          have c5b0 : decide (1 < x7_1) = false := decide_eq_false c5
          clear c5
          obtain rfl := Option.some.inj H
          go_wp2
          go_ret
          exact ⟨by first | rfl | (simp; done) | (simp [*]; done), by repeat (first | exact Drawn0.refl _ | apply Drawn0.step)⟩
  · replace c4 := Bool.eq_false_iff.mpr c4
    subst c4
    have H1 : (some 0) = some r := by rw [if_neg (show ¬ (false = true) by decide)] at H; exact H
    clear H
    have H := H1
    clear H1
    obtain rfl := Option.some.inj H
    go_enter Try.func101, Try.ntmps101
    go_wp2_with (first | ((with_reducible refine gate_callee (f := 18) rfl ?_); refine goesL_ (some 9) rfl rfl Try.func18 (by kernel_rfl) rfl #[.int .i64 a1] rfl (by (try simp only [List.map_toArray, List.map_cons, List.map_nil]); first | done | rfl | (simp only [List.length_drop, List.length_take]; rfl)) ?_; (with_reducible refine (corrieref03_May.calls a1 false _ A3.out).mono ?_); rintro e w' ⟨rfl, ⟨nd, rfl⟩⟩; refine ⟨_, rfl, ?_⟩))
    go_ret
    exact ⟨by first | rfl | (simp; done) | (simp [*]; done), by repeat (first | exact Drawn0.refl _ | apply Drawn0.step)⟩
def corrieref01_Marked.f (a0 : Int) : Option (Bool) := some ((Int.tmod a0 2) == 1)
set_option maxHeartbeats 8000000 in
set_option maxRecDepth 100000 in
theorem corrieref01_Marked.calls (a0 : Int) (r : Bool) (w : World) (h : corrieref01_Marked.f a0 = some r) :
    Calls Try.prog 97 #[.int .u64 a0] w fun e w' => e = .returned (.bool r) ∧ Drawn0 w w' := by
  have H : (some ((Int.tmod a0 2) == 1)) = some r := h
  clear h
  obtain rfl := Option.some.inj H
  go_enter Try.func97, Try.ntmps97
  go_wp2
  go_ret
  exact ⟨by first | rfl | (simp; done) | (simp [*]; done), by repeat (first | exact Drawn0.refl _ | apply Drawn0.step)⟩
def corrieref02_Over.f (a0 : Int) : Option (Bool) := some (decide (a0 ≥ 2))
set_option maxHeartbeats 8000000 in
set_option maxRecDepth 100000 in
theorem corrieref02_Over.calls (a0 : Int) (r : Bool) (w : World) (h : corrieref02_Over.f a0 = some r) :
    Calls Try.prog 102 #[.int .u64 a0] w fun e w' => e = .returned (.bool r) ∧ Drawn0 w w' := by
  have H : (some (decide (a0 ≥ 2))) = some r := h
  clear h
  obtain rfl := Option.some.inj H
  go_enter Try.func102, Try.ntmps102
  go_wp2
  go_ret
  exact ⟨by first | rfl | (simp; done) | (simp [*]; done), by repeat (first | exact Drawn0.refl _ | apply Drawn0.step)⟩
def corrieref01_Pack.j0 : Nat → Int → Bool → Bool → Option (Int)
 | 0, _, _, _ => none
 | k + 1, x0, x1, x11 => if x11 = true then (some 0) else (if x1 = true then (some (IntKind.u64.wrap ((IntKind.u64.wrap (2 * (IntKind.u64.wrap (x0)))) + 1))) else (some (IntKind.u64.wrap (2 * (IntKind.u64.wrap (x0))))))
def corrieref01_Pack.f (k : Nat) (a0 : Int) (a1 : Bool) : Option (Int) := if a0 < 0 then (corrieref01_Pack.j0 k a0 a1 true) else (corrieref01_Pack.j0 k a0 a1 (decide (a0 > 2147483647)))
set_option maxHeartbeats 8000000 in
set_option maxRecDepth 100000 in
theorem corrieref01_Pack.calls (k : Nat) (a0 : Int) (a1 : Bool) (r : Int) (w : World) (h : corrieref01_Pack.f k a0 a1 = some r) :
    Calls Try.prog 78 #[.int .i64 a0, .bool a1] w fun e w' => e = .returned (.int .u64 r) ∧ Drawn0 w w' := by
  have H : (if a0 < 0 then (corrieref01_Pack.j0 k a0 a1 true) else (corrieref01_Pack.j0 k a0 a1 (decide (a0 > 2147483647)))) = some r := h
  clear h
  have HC3 := Aside0.mk H
  clear H
  go_enter Try.func78, Try.ntmps78
  go_upto_region 1 with (fail)
  go_cut [11] (fun v11 wc => ∃ (kq : Nat) (x11_2 : Bool), v11 = .bool x11_2 ∧ Aside0 (corrieref01_Pack.j0 kq a0 a1 x11_2 = some r) ∧ Aside0 (kq ≤ k) ∧ Drawn0 w wc)
  case first =>
    have H := HC3.out
    clear HC3
    by_cases c4 : a0 < 0
    · rw [if_pos c4] at H
      have c4b0 : decide (a0 < 0) = true := decide_eq_true c4
      clear c4
      (first | rw [c4b0] | (simp only [i64_w]; rw [c4b0]) | skip)
      have H' := Aside0.mk H
      clear H
      go_wp2
      go_meet
      case rel => exact ⟨_, (true), (by first | rfl | (simp; done) | (simp [*]; done)), H', ⟨by first | omega | exact Nat.le_refl _⟩, by repeat (first | exact Drawn0.refl _ | apply Drawn0.step)⟩
    · rw [if_neg c4] at H
      have c4b0 : decide (a0 < 0) = false := decide_eq_false c4
      clear c4
      (first | rw [c4b0] | (simp only [i64_w]; rw [c4b0]) | skip)
      have H' := Aside0.mk H
      clear H
      go_wp2
      go_meet
      case rel => exact ⟨_, (decide (a0 > 2147483647)), (by first | rfl | (simp; done) | (simp [*]; done)), H', ⟨by first | omega | exact Nat.le_refl _⟩, by repeat (first | exact Drawn0.refl _ | apply Drawn0.step)⟩
  case rest =>
    clear HC3
    try clear p2
    try clear c4
    try clear c4b0
    obtain ⟨kq, x11_2, rfl, HA, HJ2, ⟨mc2, rfl⟩⟩ := hcut
    cases kq with
    | zero => exact absurd HA.out (by simp [corrieref01_Pack.j0])
    | succ kj2 =>
      have H := HA.out
      clear HA
      simp only [corrieref01_Pack.j0] at H
      by_cases c5 : x11_2 = true
      · subst c5
        have H1 : (some 0) = some r := by rw [if_pos rfl] at H; exact H
        clear H
        have H := H1
        clear H1
        obtain rfl := Option.some.inj H
        go_wp2
        go_ret
        exact ⟨by first | rfl | (simp; done) | (simp [*]; done), by repeat (first | exact Drawn0.refl _ | apply Drawn0.step)⟩
      · replace c5 := Bool.eq_false_iff.mpr c5
        subst c5
        have H1 : (if a1 = true then (some (IntKind.u64.wrap ((IntKind.u64.wrap (2 * (IntKind.u64.wrap (a0)))) + 1))) else (some (IntKind.u64.wrap (2 * (IntKind.u64.wrap (a0)))))) = some r := by rw [if_neg (show ¬ (false = true) by decide)] at H; exact H
        clear H
        have H := H1
        clear H1
        by_cases c6 : a1 = true
        · subst c6
          have H1 : (some (IntKind.u64.wrap ((IntKind.u64.wrap (2 * (IntKind.u64.wrap (a0)))) + 1))) = some r := by rw [if_pos rfl] at H; exact H
          clear H
          have H := H1
          clear H1
          obtain rfl := Option.some.inj H
          go_wp2
          go_ret
          exact ⟨by first | rfl | (simp; done) | (simp [*]; done), by repeat (first | exact Drawn0.refl _ | apply Drawn0.step)⟩
        · replace c6 := Bool.eq_false_iff.mpr c6
          subst c6
          have H1 : (some (IntKind.u64.wrap (2 * (IntKind.u64.wrap (a0))))) = some r := by rw [if_neg (show ¬ (false = true) by decide)] at H; exact H
          clear H
          have H := H1
          clear H1
          obtain rfl := Option.some.inj H
          go_wp2
          go_ret
          exact ⟨by first | rfl | (simp; done) | (simp [*]; done), by repeat (first | exact Drawn0.refl _ | apply Drawn0.step)⟩
def corrieref01_Mark.f (a0 : Int) : Option (Int) := if (Int.tmod a0 2) = 0 then (some (IntKind.u64.wrap (a0 + 1))) else (some a0)
set_option maxHeartbeats 8000000 in
set_option maxRecDepth 100000 in
theorem corrieref01_Mark.calls (a0 : Int) (r : Int) (w : World) (h : corrieref01_Mark.f a0 = some r) :
    Calls Try.prog 88 #[.int .u64 a0] w fun e w' => e = .returned (.int .u64 r) ∧ Drawn0 w w' := by
  have H : (if (Int.tmod a0 2) = 0 then (some (IntKind.u64.wrap (a0 + 1))) else (some a0)) = some r := h
  clear h
  by_cases c2 : (Int.tmod a0 2) = 0
  · rw [if_pos c2] at H
    have c2b0 : ((Int.tmod a0 2) == 0) = true := beq_iff_eq.mpr c2
    have c2b1 : ((Int.tmod a0 2) != 0) = false := bne_eq_false_iff_eq.mpr c2
    clear c2
    obtain rfl := Option.some.inj H
    go_enter Try.func88, Try.ntmps88
    go_wp2
    go_ret
    exact ⟨by first | rfl | (simp; done) | (simp [*]; done), by repeat (first | exact Drawn0.refl _ | apply Drawn0.step)⟩
  · rw [if_neg c2] at H
    have c2b0 : ((Int.tmod a0 2) == 0) = false := beq_eq_false_iff_ne.mpr c2
    have c2b1 : ((Int.tmod a0 2) != 0) = true := bne_iff_ne.mpr c2
    obtain rfl := Option.some.inj H
    go_enter Try.func88, Try.ntmps88
    go_wp2
    go_ret
    exact ⟨by first | rfl | (simp; done) | (simp [*]; done), by repeat (first | exact Drawn0.refl _ | apply Drawn0.step)⟩
def corrieref02_Of.f (a0 : Int) : Option (Int) := if a0 < 2 then (some (-1)) else (if a0 > 2147483649 then (some (-1)) else (some (wrap64 ((wrap64 (a0)) - 2))))
set_option maxHeartbeats 8000000 in
set_option maxRecDepth 100000 in
theorem corrieref02_Of.calls (a0 : Int) (r : Int) (w : World) (h : corrieref02_Of.f a0 = some r) :
    Calls Try.prog 82 #[.int .u64 a0] w fun e w' => e = .returned (.int .i64 r) ∧ Drawn0 w w' := by
  have H : (if a0 < 2 then (some (-1)) else (if a0 > 2147483649 then (some (-1)) else (some (wrap64 ((wrap64 (a0)) - 2))))) = some r := h
  clear h
  by_cases c2 : a0 < 2
  · rw [if_pos c2] at H
    have c2b0 : decide (a0 < 2) = true := decide_eq_true c2
    clear c2
    obtain rfl := Option.some.inj H
    go_enter Try.func82, Try.ntmps82
    go_wp2
    go_ret
    exact ⟨by first | rfl | (simp; done) | (simp [*]; done), by repeat (first | exact Drawn0.refl _ | apply Drawn0.step)⟩
  · rw [if_neg c2] at H
    have c2b0 : decide (a0 < 2) = false := decide_eq_false c2
    clear c2
    by_cases c3 : a0 > 2147483649
    · rw [if_pos c3] at H
      have c3b0 : decide (2147483649 < a0) = true := decide_eq_true c3
      clear c3
      obtain rfl := Option.some.inj H
      go_enter Try.func82, Try.ntmps82
      go_wp2
      go_ret
      exact ⟨by first | rfl | (simp; done) | (simp [*]; done), by repeat (first | exact Drawn0.refl _ | apply Drawn0.step)⟩
    · rw [if_neg c3] at H
      have c3b0 : decide (2147483649 < a0) = false := decide_eq_false c3
      clear c3
      obtain rfl := Option.some.inj H
      go_enter Try.func82, Try.ntmps82
      go_wp2
      go_ret
      exact ⟨by first | rfl | (simp; done) | (simp [*]; done), by repeat (first | exact Drawn0.refl _ | apply Drawn0.step)⟩
end Go.Proofs.Ytbhakljebcmocaa.PBoundKeeps
end
section
namespace Go.Proofs.Ytbhakljebcmocaa.PBoundKeeps
open Go.RowKit Go.Proofs.YtbhakljebcmocaaW.PrintWords Go.Proofs.YtbhakljebcmocaaW.PrintLast Go.Proofs.YtbhakljebcmocaaW.PrintMore
set_option linter.unusedVariables false
set_option linter.unusedSimpArgs false
def corrieref02_By.f (a0 : Int) : Option (Int) := if a0 < 3 then (some (-1)) else (if a0 > 2147483650 then (some (-1)) else (some (wrap64 ((wrap64 (a0)) - 3))))
set_option maxHeartbeats 8000000 in
set_option maxRecDepth 100000 in
theorem corrieref02_By.calls (a0 : Int) (r : Int) (w : World) (h : corrieref02_By.f a0 = some r) :
    Calls Try.prog 92 #[.int .u64 a0] w fun e w' => e = .returned (.int .i64 r) ∧ Drawn0 w w' := by
  have H : (if a0 < 3 then (some (-1)) else (if a0 > 2147483650 then (some (-1)) else (some (wrap64 ((wrap64 (a0)) - 3))))) = some r := h
  clear h
  by_cases c2 : a0 < 3
  · rw [if_pos c2] at H
    have c2b0 : decide (a0 < 3) = true := decide_eq_true c2
    clear c2
    obtain rfl := Option.some.inj H
    go_enter Try.func92, Try.ntmps92
    go_wp2
    go_ret
    exact ⟨by first | rfl | (simp; done) | (simp [*]; done), by repeat (first | exact Drawn0.refl _ | apply Drawn0.step)⟩
  · rw [if_neg c2] at H
    have c2b0 : decide (a0 < 3) = false := decide_eq_false c2
    clear c2
    by_cases c3 : a0 > 2147483650
    · rw [if_pos c3] at H
      have c3b0 : decide (2147483650 < a0) = true := decide_eq_true c3
      clear c3
      obtain rfl := Option.some.inj H
      go_enter Try.func92, Try.ntmps92
      go_wp2
      go_ret
      exact ⟨by first | rfl | (simp; done) | (simp [*]; done), by repeat (first | exact Drawn0.refl _ | apply Drawn0.step)⟩
    · rw [if_neg c3] at H
      have c3b0 : decide (2147483650 < a0) = false := decide_eq_false c3
      clear c3
      obtain rfl := Option.some.inj H
      go_enter Try.func92, Try.ntmps92
      go_wp2
      go_ret
      exact ⟨by first | rfl | (simp; done) | (simp [*]; done), by repeat (first | exact Drawn0.refl _ | apply Drawn0.step)⟩
def corrieref02_may.f (a0 : Int) : Option (Bool) := if a0 ≥ 0 then (some (decide (a0 ≤ 2147483647))) else (some false)
set_option maxHeartbeats 8000000 in
set_option maxRecDepth 100000 in
theorem corrieref02_may.calls (a0 : Int) (r : Bool) (w : World) (h : corrieref02_may.f a0 = some r) :
    Calls Try.prog 94 #[.int .i64 a0] w fun e w' => e = .returned (.bool r) ∧ Drawn0 w w' := by
  have H : (if a0 ≥ 0 then (some (decide (a0 ≤ 2147483647))) else (some false)) = some r := h
  clear h
  by_cases c2 : a0 ≥ 0
  · rw [if_pos c2] at H
    have c2b0 : decide (0 ≤ a0) = true := decide_eq_true c2
    clear c2
    obtain rfl := Option.some.inj H
    go_enter Try.func94, Try.ntmps94
    go_wp2
    go_ret
    exact ⟨by first | rfl | (simp; done) | (simp [*]; done), by repeat (first | exact Drawn0.refl _ | apply Drawn0.step)⟩
  · rw [if_neg c2] at H
    have c2b0 : decide (0 ≤ a0) = false := decide_eq_false c2
    clear c2
    obtain rfl := Option.some.inj H
    go_enter Try.func94, Try.ntmps94
    go_wp2
    go_ret
    exact ⟨by first | rfl | (simp; done) | (simp [*]; done), by repeat (first | exact Drawn0.refl _ | apply Drawn0.step)⟩
def corrieref02_Target.f (a0 : Int) : Option (Int) := (corrieref02_may.f a0).bind fun t223 => (if t223 = true then (some (IntKind.u64.wrap ((IntKind.u64.wrap (a0)) + 2))) else (some 0))
set_option maxHeartbeats 8000000 in
set_option maxRecDepth 100000 in
theorem corrieref02_Target.calls (a0 : Int) (r : Int) (w : World) (h : corrieref02_Target.f a0 = some r) :
    Calls Try.prog 85 #[.int .i64 a0] w fun e w' => e = .returned (.int .u64 r) ∧ Drawn0 w w' := by
  have H : ((corrieref02_may.f a0).bind fun t223 => (if t223 = true then (some (IntKind.u64.wrap ((IntKind.u64.wrap (a0)) + 2))) else (some 0))) = some r := h
  clear h
  replace H := Option.bind_eq_some_iff.mp H
  obtain ⟨t223, A20, H⟩ := H
  replace H : (if t223 = true then (some (IntKind.u64.wrap ((IntKind.u64.wrap (a0)) + 2))) else (some 0)) = some r := H
  have A2 := Aside0.mk A20
  clear A20
  by_cases c3 : t223 = true
  · subst c3
    have H1 : (some (IntKind.u64.wrap ((IntKind.u64.wrap (a0)) + 2))) = some r := by rw [if_pos rfl] at H; exact H
    clear H
    have H := H1
    clear H1
    obtain rfl := Option.some.inj H
    go_enter Try.func85, Try.ntmps85
    go_wp2_with (first | ((with_reducible refine gate_callee (f := 94) rfl ?_); refine goesL_ (some 4) rfl rfl Try.func94 (by kernel_rfl) rfl #[.int .i64 a0] rfl (by (try simp only [List.map_toArray, List.map_cons, List.map_nil]); first | done | rfl | (simp only [List.length_drop, List.length_take]; rfl)) ?_; (with_reducible refine (corrieref02_may.calls a0 true _ A2.out).mono ?_); rintro e w' ⟨rfl, ⟨nd, rfl⟩⟩; refine ⟨_, rfl, ?_⟩))
    go_ret
    exact ⟨by first | rfl | (simp; done) | (simp [*]; done), by repeat (first | exact Drawn0.refl _ | apply Drawn0.step)⟩
  · replace c3 := Bool.eq_false_iff.mpr c3
    subst c3
    have H1 : (some 0) = some r := by rw [if_neg (show ¬ (false = true) by decide)] at H; exact H
    clear H
    have H := H1
    clear H1
    obtain rfl := Option.some.inj H
    go_enter Try.func85, Try.ntmps85
    go_wp2_with (first | ((with_reducible refine gate_callee (f := 94) rfl ?_); refine goesL_ (some 4) rfl rfl Try.func94 (by kernel_rfl) rfl #[.int .i64 a0] rfl (by (try simp only [List.map_toArray, List.map_cons, List.map_nil]); first | done | rfl | (simp only [List.length_drop, List.length_take]; rfl)) ?_; (with_reducible refine (corrieref02_may.calls a0 false _ A2.out).mono ?_); rintro e w' ⟨rfl, ⟨nd, rfl⟩⟩; refine ⟨_, rfl, ?_⟩))
    go_ret
    exact ⟨by first | rfl | (simp; done) | (simp [*]; done), by repeat (first | exact Drawn0.refl _ | apply Drawn0.step)⟩
def corrieref02_Out.f (a0 : Int) : Option (Int) := (corrieref02_may.f a0).bind fun t224 => (if t224 = true then (some (IntKind.u64.wrap ((IntKind.u64.wrap (a0)) + 3))) else (some 0))
set_option maxHeartbeats 8000000 in
set_option maxRecDepth 100000 in
theorem corrieref02_Out.calls (a0 : Int) (r : Int) (w : World) (h : corrieref02_Out.f a0 = some r) :
    Calls Try.prog 83 #[.int .i64 a0] w fun e w' => e = .returned (.int .u64 r) ∧ Drawn0 w w' := by
  have H : ((corrieref02_may.f a0).bind fun t224 => (if t224 = true then (some (IntKind.u64.wrap ((IntKind.u64.wrap (a0)) + 3))) else (some 0))) = some r := h
  clear h
  replace H := Option.bind_eq_some_iff.mp H
  obtain ⟨t224, A20, H⟩ := H
  replace H : (if t224 = true then (some (IntKind.u64.wrap ((IntKind.u64.wrap (a0)) + 3))) else (some 0)) = some r := H
  have A2 := Aside0.mk A20
  clear A20
  by_cases c3 : t224 = true
  · subst c3
    have H1 : (some (IntKind.u64.wrap ((IntKind.u64.wrap (a0)) + 3))) = some r := by rw [if_pos rfl] at H; exact H
    clear H
    have H := H1
    clear H1
    obtain rfl := Option.some.inj H
    go_enter Try.func83, Try.ntmps83
    go_wp2_with (first | ((with_reducible refine gate_callee (f := 94) rfl ?_); refine goesL_ (some 4) rfl rfl Try.func94 (by kernel_rfl) rfl #[.int .i64 a0] rfl (by (try simp only [List.map_toArray, List.map_cons, List.map_nil]); first | done | rfl | (simp only [List.length_drop, List.length_take]; rfl)) ?_; (with_reducible refine (corrieref02_may.calls a0 true _ A2.out).mono ?_); rintro e w' ⟨rfl, ⟨nd, rfl⟩⟩; refine ⟨_, rfl, ?_⟩))
    go_ret
    exact ⟨by first | rfl | (simp; done) | (simp [*]; done), by repeat (first | exact Drawn0.refl _ | apply Drawn0.step)⟩
  · replace c3 := Bool.eq_false_iff.mpr c3
    subst c3
    have H1 : (some 0) = some r := by rw [if_neg (show ¬ (false = true) by decide)] at H; exact H
    clear H
    have H := H1
    clear H1
    obtain rfl := Option.some.inj H
    go_enter Try.func83, Try.ntmps83
    go_wp2_with (first | ((with_reducible refine gate_callee (f := 94) rfl ?_); refine goesL_ (some 4) rfl rfl Try.func94 (by kernel_rfl) rfl #[.int .i64 a0] rfl (by (try simp only [List.map_toArray, List.map_cons, List.map_nil]); first | done | rfl | (simp only [List.length_drop, List.length_take]; rfl)) ?_; (with_reducible refine (corrieref02_may.calls a0 false _ A2.out).mono ?_); rintro e w' ⟨rfl, ⟨nd, rfl⟩⟩; refine ⟨_, rfl, ?_⟩))
    go_ret
    exact ⟨by first | rfl | (simp; done) | (simp [*]; done), by repeat (first | exact Drawn0.refl _ | apply Drawn0.step)⟩
def corrielaw23_BoundKeeps.f (a0_0 a0_1 a0_2 a0_3 a0_4 : Int) (l1 : List (List (S48))) (l2 : List Int) : Option Bool := some true
end Go.Proofs.Ytbhakljebcmocaa.PBoundKeeps
end
section
namespace Go.Proofs.Ytbhakljebcmocaa.PBoundKeeps
open Go.RowKit Go.Proofs.YtbhakljebcmocaaW.PrintWords Go.Proofs.YtbhakljebcmocaaW.PrintLast Go.Proofs.YtbhakljebcmocaaW.PrintMore
set_option linter.unusedVariables false
set_option linter.unusedSimpArgs false
theorem wrap64_eq {n : Int} (h0 : -9223372036854775808 ≤ n) (h1 : n ≤ 9223372036854775807) : wrap64 n = n := by unfold wrap64; omega
def isPow (b : Int) : Bool := decide (b = 1 ∨ b = 2 ∨ b = 4 ∨ b = 8 ∨ b = 16 ∨ b = 32 ∨ b = 64)
theorem isPow_le {b : Int} (h : isPow b = true) : 1 ≤ b ∧ b ≤ 64 := by
 have : b = 1 ∨ b = 2 ∨ b = 4 ∨ b = 8 ∨ b = 16 ∨ b = 32 ∨ b = 64 := by simpa [isPow] using h
 omega
theorem rpow_eq (b : Int) : corrieref03_May.f b = some (isPow b) := by
 unfold corrieref03_May.f isPow
 repeat' split
 all_goals first | (subst_vars; rfl) | (congr 1; rw [Bool.eq_iff_iff]; simp [*])
def Ok (t b i f c : Int) : Prop := (1 ≤ t ∧ t ≤ 8) ∧ isPow b = true ∧ (0 ≤ i ∧ i ≤ 256) ∧ (0 ≤ f ∧ f ≤ 65536) ∧ (1 ≤ c ∧ c ≤ 256)
instance (t b i f c : Int) : Decidable (Ok t b i f c) := by unfold Ok; infer_instance
theorem mul_le {t c : Int} (h1 : 1 ≤ t) (h2 : t ≤ 8) (h3 : 1 ≤ c) (h4 : c ≤ 256) : 1 ≤ t * c ∧ t ≤ t * c ∧ t * c ≤ 2048 := by
 have ha : t * 1 ≤ t * c := Int.mul_le_mul_of_nonneg_left h3 (by omega)
 have hb : t * c ≤ 8 * c := Int.mul_le_mul_of_nonneg_right h2 (by omega)
 omega
theorem bnds {t b i f c : Int} (h : Ok t b i f c) : 1 ≤ t ∧ t ≤ 8 ∧ 1 ≤ b ∧ b ≤ 64 ∧ 1 ≤ c ∧ c ≤ 256 ∧ 1 ≤ t * c ∧ t ≤ t * c ∧ t * c ≤ 2048 := by
 have hm := mul_le h.1.1 h.1.2 h.2.2.2.2.1 h.2.2.2.2.2
 have hb := isPow_le h.2.1
 have h5 := h.2.2.2.2
 have h1 := h.1
 omega
theorem sc_le {s t c : Int} (h0 : 0 ≤ s) (h1 : s < t) (h2 : t ≤ 8) (h3 : 1 ≤ c) (h4 : c ≤ 256) : 0 ≤ s * c ∧ s * c + c ≤ t * c ∧ t * c ≤ 2048 := by
 have ha : 0 * c ≤ s * c := Int.mul_le_mul_of_nonneg_right h0 (by omega)
 have hb : (s + 1) * c ≤ t * c := Int.mul_le_mul_of_nonneg_right (by omega) (by omega)
 have hc : t * c ≤ 8 * c := Int.mul_le_mul_of_nonneg_right h2 (by omega)
 rw [Int.add_mul, Int.one_mul] at hb
 omega
structure RB where
 c : S23
 calls : List Int
 ins : List Int
 made : List Int
 ops : List S120
 nodes : List S125
def ndR (r : Option Int) : Int := r.getD (-1)
set_option maxHeartbeats 8000000 in
set_option maxRecDepth 100000 in
def opC (r : Option S48) : S48 := r.getD z48
def opE (r : Option S48) : Int := if r.isSome then 0 else 4
set_option maxHeartbeats 8000000 in
set_option maxRecDepth 100000 in
def RB.called (b : RB) (i : Nat) : RB := { b with calls := b.calls.set i (b.calls.getD i 0 + 1) }
def RB.inserted (b : RB) (i : Nat) : RB := { b with ins := b.ins.set i (b.ins.getD i 0 + 1) }
def RB.mades (b : RB) (i : Nat) : RB := { b with made := b.made.set i (b.made.getD i 0 + 1) }
def RB.addOp (b : RB) (op : Int) (x : S48) : RB := { b with ops := b.ops ++ [⟨op, x⟩] }
def RB.addNode (b : RB) (nd op : Int) : RB := { b with nodes := b.nodes ++ [⟨nd, op⟩] }
structure RA where
 a5 : Option Addr
 a6 : Option Addr
 a7 : Option Addr
 a8 : Option Addr
 a9 : Option Addr
 c5 : Nat
 c6 : Nat
 c7 : Nat
 c8 : Nat
 c9 : Nat
def fOp (l : List S120) (k : Int) : Option S48 := (l.find? (fun x => x.f0 == k)).map (fun x => x.f1)
def fNd (l : List S125) (k : Int) : Option Int := (l.find? (fun x => x.f0 == k)).map (fun x => x.f1)
end Go.Proofs.Ytbhakljebcmocaa.PBoundKeeps
end
section
namespace Go.Proofs.Ytbhakljebcmocaa.PBoundKeeps
open Go.RowKit Go.Proofs.YtbhakljebcmocaaW.PrintWords Go.Proofs.YtbhakljebcmocaaW.PrintLast Go.Proofs.YtbhakljebcmocaaW.PrintMore
set_option linter.unusedVariables false
set_option linter.unusedSimpArgs false
def newRB (c : S23) : RB := ⟨c, List.replicate c.f0.toNat 0, List.replicate c.f0.toNat 0, List.replicate c.f0.toNat 0, [], []⟩
theorem getD_set (l : List Int) (i j : Nat) (v : Int) (h : j < l.length) : (l.set i v).getD j 0 = if i = j then v else l.getD j 0 := by
 by_cases e : i = j
 ·subst e
  rw [if_pos rfl]
  simp [List.getD, h]
 ·rw [if_neg e]
  simp [List.getD, e]
def sm : List Int → Int
 | [] => 0
 | x :: t => x + sm t
theorem sm_set (l : List Int) : ∀ (i : Nat) (v : Int), i < l.length → l.getD i 0 = v → sm (l.set i (v + 1)) = sm l + 1 := by
 induction l with
 | nil => intro i v h; simp at h
 | cons a t ih =>
  intro i v h hv
  cases i with
  | zero =>
   have : a = v := by simpa using hv
   subst this
   simp only [List.set_cons_zero, sm]
   omega
  | succ i =>
   have := ih i v (by simpa using h) (by simpa using hv)
   simp only [List.set_cons_succ, sm, this]
   omega
theorem sm_le (l : List Int) (m : Int) (h : ∀ i, i < l.length → l.getD i 0 ≤ m) : sm l ≤ l.length * m := by
 induction l with
 | nil => simp [sm]
 | cons a t ih =>
  have h0 := h 0 (by simp)
  have h1 := ih (fun i hi => by have := h (i + 1) (by simpa using hi); simpa using this)
  have h0' : a ≤ m := by simpa using h0
  have e : ((t.length + 1 : Nat) : Int) * m = t.length * m + m := by rw [Int.natCast_add, Int.add_mul]; simp
  rw [sm, List.length_cons, e]
  omega
theorem sm_rep (n : Nat) : sm (List.replicate n 0) = 0 := by
 induction n with
 | zero => rfl
 | succ n ih => rw [List.replicate_succ, sm, ih]; rfl
def opNo (c : S23) (n i : Int) : Int := n * c.f4 + i
def ndNo (c : S23) (n i : Int) : Int := 1 + c.f1 + 2 * (n * c.f4) + i
structure Inv (b : RB) : Prop where
 ok : Ok b.c.f0 b.c.f1 b.c.f2 b.c.f3 b.c.f4
 lc : (b.calls.length : Int) = b.c.f0
 li : b.ins.length = b.calls.length
 lm : b.made.length = b.calls.length
 hc : ∀ i, i < b.calls.length → 0 ≤ b.calls.getD i 0 ∧ b.calls.getD i 0 ≤ b.c.f4
 hi : ∀ i, i < b.calls.length → 0 ≤ b.ins.getD i 0 ∧ b.ins.getD i 0 ≤ b.c.f2
 hm : ∀ i, i < b.calls.length → 0 ≤ b.made.getD i 0 ∧ b.made.getD i 0 ≤ 2 * b.c.f4
 no : (b.ops.length : Int) ≤ sm b.calls
 nn : (b.nodes.length : Int) ≤ sm b.made
 ou : ∀ x ∈ b.ops, ∃ (n : Nat) (i : Int), n < b.calls.length ∧ 0 ≤ i ∧ i < b.calls.getD n 0 ∧ x.f0 = opNo b.c n i
 od : (b.ops.map (fun x => x.f0)).Nodup
 nu : ∀ x ∈ b.nodes, ∃ (n : Nat) (i : Int), n < b.calls.length ∧ 0 ≤ i ∧ i < b.made.getD n 0 ∧ x.f0 = ndNo b.c n i
 nd : (b.nodes.map (fun x => x.f0)).Nodup
 nw : ∀ x ∈ b.nodes, (fOp b.ops x.f1).isSome = true
theorem Inv.small {b : RB} (h : Inv b) : b.calls.length ≤ 8 ∧ b.ops.length ≤ 2048 ∧ b.nodes.length ≤ 4096 ∧ 1 ≤ b.c.f4 ∧ b.c.f4 ≤ 256 ∧ 0 ≤ b.c.f2 ∧ b.c.f2 ≤ 256 ∧ 1 ≤ b.c.f1 ∧ b.c.f1 ≤ 64 ∧ 1 ≤ b.calls.length := by
 obtain ⟨⟨t1, t2⟩, hp, ⟨i1, i2⟩, _, c1, c2⟩ := h.ok
 have hb := isPow_le hp
 have hl := h.lc
 have s1 := sm_le b.calls b.c.f4 (fun i hi => (h.hc i hi).2)
 have s2 := sm_le b.made (2 * b.c.f4) (fun i hi => (h.hm i (by rw [← h.lm]; exact hi)).2)
 have l8 : b.calls.length ≤ 8 := by omega
 have m1 : (b.calls.length : Int) * b.c.f4 ≤ 8 * 256 := Int.mul_le_mul (by omega) (by omega) (by omega) (by omega)
 have m2 : (b.made.length : Int) * (2 * b.c.f4) ≤ 8 * 512 := Int.mul_le_mul (by rw [h.lm]; omega) (by omega) (by omega) (by omega)
 have n1 := h.no
 have n2 := h.nn
 refine ⟨l8, by omega, by omega, c1, c2, i1, i2, hb.1, hb.2, by omega⟩
theorem split_eq {c : Int} {n m i j : Int} (hc : 0 < c) (h0 : 0 ≤ i) (h1 : i < c) (g0 : 0 ≤ j) (g1 : j < c) (h : n * c + i = m * c + j) : n = m ∧ i = j := by
 have e1 : (n * c + i) / c = n := by rw [Int.add_comm, Int.add_mul_ediv_right _ _ (by omega), Int.ediv_eq_zero_of_lt h0 h1]; omega
 have e2 : (m * c + j) / c = m := by rw [Int.add_comm, Int.add_mul_ediv_right _ _ (by omega), Int.ediv_eq_zero_of_lt g0 g1]; omega
 have : n = m := by rw [← e1, ← e2, h]
 subst this
 exact ⟨rfl, by omega⟩
def begR (b : RB) (n : Int) (x : S48) : RB × Int × Int :=
 if 0 ≤ n ∧ n < (b.calls.length : Int) ∧ 1 ≤ x.f0 ∧ x.f0 ≤ 4 then
  if b.calls.getD n.toNat 0 = b.c.f4 then (b, 0, 2)
  else if x.f0 = 1 then
   if b.ins.getD n.toNat 0 = b.c.f2 then (b.called n.toNat, 0, 3)
   else (((b.called n.toNat).inserted n.toNat).addOp (opNo b.c n (b.calls.getD n.toNat 0)) x, opNo b.c n (b.calls.getD n.toNat 0), 0)
  else ((b.called n.toNat).addOp (opNo b.c n (b.calls.getD n.toNat 0)) x, opNo b.c n (b.calls.getD n.toNat 0), 0)
 else (b, 0, 1)
def mkR (b : RB) (n k : Int) : RB × Int × Int :=
 if 0 ≤ n ∧ n < (b.calls.length : Int) ∧ (fOp b.ops k).isSome = true then
  if b.made.getD n.toNat 0 = 2 * b.c.f4 then (b, 0, 3)
  else ((b.mades n.toNat).addNode (ndNo b.c n (b.made.getD n.toNat 0)) k, ndNo b.c n (b.made.getD n.toNat 0), 0)
 else (b, 0, 1)
theorem Inv.called {b : RB} (h : Inv b) (i : Nat) (hi : i < b.calls.length) (hlt : ¬ b.calls.getD i 0 = b.c.f4) : Inv (b.called i) := by
 have hl : (b.called i).calls.length = b.calls.length := by simp [RB.called]
 have hs := sm_set b.calls i _ hi rfl
 have hg : ∀ j, j < b.calls.length → (b.called i).calls.getD j 0 = if i = j then b.calls.getD i 0 + 1 else b.calls.getD j 0 := fun j hj => getD_set _ _ _ _ hj
 have hci := h.hc i hi
 refine ⟨h.ok, by rw [hl]; exact h.lc, by rw [hl]; exact h.li, by rw [hl]; exact h.lm, fun j hj => ?_, fun j hj => h.hi j (by omega), fun j hj => h.hm j (by omega), ?_, h.nn, fun x hx => ?_, h.od, fun x hx => ?_, h.nd, h.nw⟩
 ·rw [hl] at hj
  rw [hg j hj]
  split
  ·rename_i e
   show 0 ≤ b.calls.getD i 0 + 1 ∧ b.calls.getD i 0 + 1 ≤ b.c.f4
   omega
  ·exact h.hc j hj
 ·have := h.no
  show (b.ops.length : Int) ≤ sm (b.calls.set i (b.calls.getD i 0 + 1))
  omega
 ·obtain ⟨n, q, h1, h2, h3, h4⟩ := h.ou x hx
  refine ⟨n, q, by rw [hl]; exact h1, h2, ?_, h4⟩
  rw [hg n h1]
  split
  ·rename_i e
   subst e
   omega
  ·exact h3
 ·obtain ⟨n, q, h1, h2, h3, h4⟩ := h.nu x hx
  exact ⟨n, q, by rw [hl]; exact h1, h2, h3, h4⟩
theorem Inv.inserted {b : RB} (h : Inv b) (i : Nat) (hi : i < b.calls.length) (hlt : ¬ b.ins.getD i 0 = b.c.f2) : Inv (b.inserted i) := by
 have hg : ∀ j, j < b.calls.length → (b.inserted i).ins.getD j 0 = if i = j then b.ins.getD i 0 + 1 else b.ins.getD j 0 := fun j hj => getD_set _ _ _ _ (by rw [h.li]; exact hj)
 have hii := h.hi i hi
 refine ⟨h.ok, h.lc, by simp [RB.inserted, h.li], h.lm, h.hc, fun j hj => ?_, h.hm, h.no, h.nn, h.ou, h.od, h.nu, h.nd, h.nw⟩
 rw [hg j hj]
 split
 ·show 0 ≤ b.ins.getD i 0 + 1 ∧ b.ins.getD i 0 + 1 ≤ b.c.f2
  omega
 ·exact h.hi j hj
theorem fOp_snoc (l : List S120) (y : S120) (k : Int) (h : (fOp l k).isSome = true) : fOp (l ++ [y]) k = fOp l k := by
 unfold fOp at *
 rw [List.find?_append]
 cases e : l.find? (fun x => x.f0 == k) with
 | none => rw [e] at h; cases h
 | some z => rfl
theorem Inv.addOp {b b1 : RB} (h : Inv b) (h1 : Inv b1) (i : Nat) (hi : i < b.calls.length) (hlt : ¬ b.calls.getD i 0 = b.c.f4) (ec : b1.c = b.c) (el : b1.calls = (b.called i).calls) (eo : b1.ops = b.ops) (x : S48) : Inv (b1.addOp (opNo b.c i (b.calls.getD i 0)) x) := by
 have hs := sm_set b.calls i _ hi rfl
 have hl : b1.calls.length = b.calls.length := by rw [el]; simp [RB.called]
 have hci := h.hc i hi
 have hg : b1.calls.getD i 0 = b.calls.getD i 0 + 1 := by rw [el]; show (b.calls.set i _).getD i 0 = _; rw [getD_set _ _ _ _ hi, if_pos rfl]
 refine ⟨h1.ok, h1.lc, h1.li, h1.lm, h1.hc, h1.hi, h1.hm, ?_, h1.nn, fun y hy => ?_, ?_, h1.nu, h1.nd, fun y hy => ?_⟩
 ·have := h.no
  show ((b1.ops ++ [_]).length : Int) ≤ sm b1.calls
  rw [el, eo]
  show ((b.ops ++ [_]).length : Int) ≤ sm (b.calls.set i (b.calls.getD i 0 + 1))
  rw [hs, List.length_append, List.length_singleton]
  omega
 ·rcases List.mem_append.1 hy with hy | hy
  ·exact h1.ou y hy
  ·have : y = ⟨opNo b.c i (b.calls.getD i 0), x⟩ := by simpa using hy
   subst this
   exact ⟨i, b.calls.getD i 0, by show i < b1.calls.length; omega, hci.1, by show _ < b1.calls.getD i 0; omega, by show _ = opNo b1.c _ _; rw [ec]⟩
 ·show ((b1.ops ++ [_]).map _).Nodup
  rw [List.map_append, List.nodup_append]
  refine ⟨h1.od, by simp, fun a ha c hc => ?_⟩
  have : c = opNo b.c i (b.calls.getD i 0) := by simpa using hc
  subst this
  rintro rfl
  rw [eo] at ha
  obtain ⟨y, hy, e⟩ := List.mem_map.1 ha
  obtain ⟨n, q, q1, q2, q3, q4⟩ := h.ou y hy
  have hcn := h.hc n q1
  rw [q4] at e
  unfold opNo at e
  obtain ⟨e1, e2⟩ := split_eq (c := b.c.f4) (n := (n : Int)) (m := (i : Int)) (i := q) (j := b.calls.getD i 0) (by have := h.small; omega) q2 (by omega) hci.1 (by omega) e
  have : n = i := by omega
  subst this
  omega
 ·show (fOp (b1.ops ++ [_]) y.f1).isSome = true
  rw [fOp_snoc _ _ _ (h1.nw y hy)]
  exact h1.nw y hy
theorem Inv.beg {b : RB} (h : Inv b) (n : Int) (x : S48) : Inv (begR b n x).1 := by
 unfold begR
 split
 ·rename_i hc
  obtain ⟨n0, n1, _, _⟩ := hc
  obtain ⟨i, rfl⟩ : ∃ i : Nat, n = (i : Int) := ⟨n.toNat, by omega⟩
  simp only [Int.toNat_natCast]
  have hi : i < b.calls.length := by omega
  split
  ·exact h
  ·rename_i hne
   have h1 := h.called i hi hne
   split
   ·split
    ·exact h1
    ·rename_i hin
     have h2 := h1.inserted i (by simpa [RB.called] using hi) hin
     exact h.addOp h2 i hi hne rfl rfl rfl x
   ·exact h.addOp h1 i hi hne rfl rfl rfl x
 ·exact h
theorem Inv.mades {b : RB} (h : Inv b) (i : Nat) (hi : i < b.calls.length) (hlt : ¬ b.made.getD i 0 = 2 * b.c.f4) : Inv (b.mades i) := by
 have him : i < b.made.length := by rw [h.lm]; exact hi
 have hs := sm_set b.made i _ him rfl
 have hg : ∀ j, j < b.calls.length → (b.mades i).made.getD j 0 = if i = j then b.made.getD i 0 + 1 else b.made.getD j 0 := fun j hj => getD_set _ _ _ _ (by rw [h.lm]; exact hj)
 have hmi := h.hm i hi
 refine ⟨h.ok, h.lc, h.li, by simp [RB.mades, h.lm], h.hc, h.hi, fun j hj => ?_, h.no, ?_, h.ou, h.od, fun x hx => ?_, h.nd, h.nw⟩
 ·rw [hg j hj]
  split
  ·show 0 ≤ b.made.getD i 0 + 1 ∧ b.made.getD i 0 + 1 ≤ 2 * b.c.f4
   omega
  ·exact h.hm j hj
 ·have := h.nn
  show (b.nodes.length : Int) ≤ sm (b.made.set i (b.made.getD i 0 + 1))
  omega
 ·obtain ⟨n, q, h1, h2, h3, h4⟩ := h.nu x hx
  refine ⟨n, q, h1, h2, ?_, h4⟩
  rw [hg n h1]
  split
  ·rename_i e
   subst e
   omega
  ·exact h3
theorem Inv.mkd {b : RB} (h : Inv b) (n k : Int) : Inv (mkR b n k).1 := by
 unfold mkR
 split
 ·rename_i hc
  obtain ⟨n0, n1, hk⟩ := hc
  obtain ⟨i, rfl⟩ : ∃ i : Nat, n = (i : Int) := ⟨n.toNat, by omega⟩
  simp only [Int.toNat_natCast]
  have hi : i < b.calls.length := by omega
  split
  ·exact h
  ·rename_i hne
   have h1 := h.mades i hi hne
   have him : i < b.made.length := by rw [h.lm]; exact hi
   have hs := sm_set b.made i _ him rfl
   have hmi := h.hm i hi
   have hg : (b.mades i).made.getD i 0 = b.made.getD i 0 + 1 := by show (b.made.set i _).getD i 0 = _; rw [getD_set _ _ _ _ him, if_pos rfl]
   refine ⟨h1.ok, h1.lc, h1.li, h1.lm, h1.hc, h1.hi, h1.hm, h1.no, ?_, h1.ou, h1.od, fun y hy => ?_, ?_, fun y hy => ?_⟩
   ·have := h.nn
    show ((b.nodes ++ [_]).length : Int) ≤ sm (b.made.set i (b.made.getD i 0 + 1))
    rw [hs, List.length_append, List.length_singleton]
    omega
   ·rcases List.mem_append.1 hy with hy | hy
    ·exact h1.nu y hy
    ·have : y = ⟨ndNo b.c i (b.made.getD i 0), k⟩ := by simpa using hy
     subst this
     exact ⟨i, b.made.getD i 0, hi, hmi.1, by show _ < (b.mades i).made.getD i 0; omega, rfl⟩
   ·show ((b.nodes ++ [_]).map _).Nodup
    rw [List.map_append, List.nodup_append]
    refine ⟨h.nd, by simp, fun a ha c hc => ?_⟩
    have : c = ndNo b.c i (b.made.getD i 0) := by simpa using hc
    subst this
    rintro rfl
    obtain ⟨y, hy, e⟩ := List.mem_map.1 ha
    obtain ⟨n, q, q1, q2, q3, q4⟩ := h.nu y hy
    have hcn := h.hm n q1
    rw [q4] at e
    unfold ndNo at e
    have e' : (n : Int) * (2 * b.c.f4) + q = (i : Int) * (2 * b.c.f4) + b.made.getD i 0 := by rw [Int.mul_left_comm (n : Int), Int.mul_left_comm (i : Int)]; omega
    obtain ⟨e1, e2⟩ := split_eq (c := 2 * b.c.f4) (n := (n : Int)) (m := (i : Int)) (i := q) (j := b.made.getD i 0) (by have := h.small; omega) q2 (by omega) hmi.1 (by omega) e'
    have : n = i := by omega
    subst this
    omega
   ·rcases List.mem_append.1 hy with hy | hy
    ·exact h1.nw y hy
    ·have : y = ⟨ndNo b.c i (b.made.getD i 0), k⟩ := by simpa using hy
     subst this
     exact hk
 ·exact h
theorem Inv.new (c : S23) (h : Ok c.f0 c.f1 c.f2 c.f3 c.f4) : Inv (newRB c) := by
 obtain ⟨⟨t1, t2⟩, hp, ⟨i1, i2⟩, _, c1, c2⟩ := h
 have hz : ∀ (n i : Nat), (List.replicate n (0 : Int)).getD i 0 = 0 := fun n i => by simp [List.getD, List.getElem?_replicate]; split <;> rfl
 refine ⟨⟨⟨t1, t2⟩, hp, ⟨i1, i2⟩, by assumption, c1, c2⟩, by simp [newRB]; omega, by simp [newRB], by simp [newRB], fun i hi => ?_, fun i hi => ?_, fun i hi => ?_, ?_, ?_, (fun x hx => by cases hx), List.nodup_nil, (fun x hx => by cases hx), List.nodup_nil, (fun x hx => by cases hx)⟩
 ·show 0 ≤ (List.replicate _ (0 : Int)).getD i 0 ∧ (List.replicate _ (0 : Int)).getD i 0 ≤ c.f4
  rw [hz]; omega
 ·show 0 ≤ (List.replicate _ (0 : Int)).getD i 0 ∧ (List.replicate _ (0 : Int)).getD i 0 ≤ c.f2
  rw [hz]; omega
 ·show 0 ≤ (List.replicate _ (0 : Int)).getD i 0 ∧ (List.replicate _ (0 : Int)).getD i 0 ≤ 2 * c.f4
  rw [hz]; omega
 ·show ((0 : Nat) : Int) ≤ sm (List.replicate _ 0)
  rw [sm_rep]; omega
 ·show ((0 : Nat) : Int) ≤ sm (List.replicate _ 0)
  rw [sm_rep]; omega
end Go.Proofs.Ytbhakljebcmocaa.PBoundKeeps
end
section
namespace Go.Proofs.Ytbhakljebcmocaa.PBoundKeeps
open Go.RowKit Go.Proofs.YtbhakljebcmocaaW.PrintWords Go.Proofs.YtbhakljebcmocaaW.PrintLast Go.Proofs.YtbhakljebcmocaaW.PrintMore
set_option linter.unusedVariables false
set_option linter.unusedSimpArgs false
theorem mG {α : Type} {l : List α} {x : α} (i : Nat) (h : l[i]? = some x) : x ∈ l := List.mem_of_getElem? h
theorem oT {p : Prop} [Decidable p] (h : decide p = true) : p := of_decide_eq_true h
theorem oF {p : Prop} [Decidable p] (h : decide p = false) : ¬ p := of_decide_eq_false h
theorem bT {α : Type} {b : Bool} {x y : α} (h : b = true) : cond b x y = x := by rw [h]; rfl
theorem bF {α : Type} {b : Bool} {x y : α} (h : b = false) : cond b x y = y := by rw [h]; rfl
structure RW where
 c : S23
 ws : List Int
 st : Int
 b : RB
structure RX where
 A : Option Addr
 C : Nat
 r : RA
def encC (c : S23) : List Value := [.int .i64 c.f0, .int .i64 c.f1, .int .i64 c.f2, .int .i64 c.f3, .int .i64 c.f4]
def encB (b : RB) (r : RA) : List Value := [.int .i64 b.c.f0, .int .i64 b.c.f1, .int .i64 b.c.f2, .int .i64 b.c.f3, .int .i64 b.c.f4, .slice r.a5 b.calls.length r.c5, .slice r.a6 b.ins.length r.c6, .slice r.a7 b.made.length r.c7, .slice r.a8 b.ops.length r.c8, .slice r.a9 b.nodes.length r.c9]
def encW (w : RW) (x : RX) : List Value := encC w.c ++ ([.slice x.A w.ws.length x.C, .int .i64 w.st] ++ encB w.b x.r)
def encCall (c : S48) : List Value := [.int .i64 c.f0, .int .u64 c.f1, .int .u64 c.f2, .int .i64 c.f3]
def uE (x : Int) : List Value := [.int .u64 x]
def iE (x : Int) : List Value := [.int .i64 x]
def opcE (x : S120) : List Value := [.int .i64 x.f0, .int .i64 x.f1.f0, .int .u64 x.f1.f1, .int .u64 x.f1.f2, .int .i64 x.f1.f3]
def ndE (x : S125) : List Value := [.int .i64 x.f0, .int .i64 x.f1]
def prE (x : S129) : List Value := [.int .u64 x.f0, .int .u64 x.f1]
section
variable {α : Type} {enc : α → List Value} {sz : Nat}
theorem flat_len (h : ∀ x, (enc x).length = sz) : ∀ l : List α, (l.flatMap enc).length = l.length * sz
 | [] => by simp
 | x :: r => by rw [List.flatMap_cons, List.length_append, h x, flat_len h r, List.length_cons, Nat.succ_mul, Nat.add_comm]
theorem flat_drop (h : ∀ x, (enc x).length = sz) : ∀ (l : List α) (i : Nat), (l.flatMap enc).drop (i * sz) = (l.drop i).flatMap enc
 | l, 0 => by simp
 | [], i + 1 => by simp
 | x :: r, i + 1 => by
  rw [List.flatMap_cons, Nat.succ_mul, Nat.add_comm, ← h x, List.drop_length_add_append, h x, List.drop_succ_cons]
  exact flat_drop h r i
theorem flat_at (h : ∀ x, (enc x).length = sz) (l : List α) (i o k : Nat) (hi : i < l.length) (hk : o + k ≤ sz) (tail : List Value) : ((l.flatMap enc ++ tail).drop (i * sz + o)).take k = ((enc l[i]).drop o).take k := by
 have hl := flat_len h l
 have hle : i * sz + o ≤ (l.flatMap enc).length := by
  rw [hl]
  have : (i + 1) * sz ≤ l.length * sz := Nat.mul_le_mul_right _ hi
  rw [Nat.succ_mul] at this
  omega
 rw [List.drop_append_of_le_length hle, ← List.drop_drop, flat_drop h, List.drop_eq_getElem_cons hi, List.flatMap_cons, List.drop_append_of_le_length (by rw [h]; omega), List.append_assoc, List.take_append_of_le_length (by rw [List.length_drop, h]; omega)]
theorem flat_get (h : ∀ x, (enc x).length = sz) (l : List α) (i o : Nat) (hi : i < l.length) (ho : o < sz) (tail : List Value) : (l.flatMap enc ++ tail)[i * sz + o]? = (enc l[i])[o]? := by
 have := flat_at h l i o 1 hi (by omega) tail
 have e1 : ((l.flatMap enc ++ tail).drop (i * sz + o))[0]? = (l.flatMap enc ++ tail)[i * sz + o]? := by rw [List.getElem?_drop, Nat.add_zero]
 have e2 : ((enc l[i]).drop o)[0]? = (enc l[i])[o]? := by rw [List.getElem?_drop, Nat.add_zero]
 rw [← e1, ← e2]
 have h2 := congrArg (fun l => l[0]?) this
 simpa [List.getElem?_take] using h2
theorem flat_put (h : ∀ x, (enc x).length = sz) (l : List α) (i o : Nat) (hi : i < l.length) (vs : List Value) (ho : o + vs.length ≤ sz) (y : α) (hy : lput (enc l[i]) o vs = enc y) (tail : List Value) : lput (l.flatMap enc ++ tail) (i * sz + o) vs = (l.set i y).flatMap enc ++ tail := by
 have hl := flat_len h l
 have h1 : (i + 1) * sz ≤ l.length * sz := Nat.mul_le_mul_right _ hi
 rw [Nat.succ_mul] at h1
 have e0 : l = l.take i ++ l[i] :: l.drop (i + 1) := by rw [← List.drop_eq_getElem_cons hi, List.take_append_drop]
 have e1 : l.flatMap enc = (l.take i).flatMap enc ++ (enc l[i] ++ (l.drop (i + 1)).flatMap enc) := by
  conv => lhs; rw [e0]
  rw [List.flatMap_append, List.flatMap_cons]
 have e2 : l.set i y = l.take i ++ y :: l.drop (i + 1) := by rw [List.set_eq_take_append_cons_drop, if_pos hi]
 have hp : ((l.take i).flatMap enc).length = i * sz := by rw [flat_len h, List.length_take, Nat.min_eq_left (by omega)]
 rw [e2, List.flatMap_append, List.flatMap_cons, e1, ← hy]
 generalize (l.take i).flatMap enc = p at hp
 generalize he : enc l[i] = q
 have hq : q.length = sz := by rw [← he, h]
 generalize (l.drop (i + 1)).flatMap enc ++ tail = r at *
 unfold lput
 have t1 : List.take (i * sz + o) (p ++ (q ++ (l.drop (i + 1)).flatMap enc) ++ tail) = p ++ q.take o := by
  rw [← hp, List.append_assoc, List.take_length_add_append, List.append_assoc, List.take_append_of_le_length (by omega)]
 have t2 : List.drop (i * sz + o + vs.length) (p ++ (q ++ (l.drop (i + 1)).flatMap enc) ++ tail) = q.drop (o + vs.length) ++ ((l.drop (i + 1)).flatMap enc ++ tail) := by
  rw [Nat.add_assoc, ← hp, List.append_assoc, List.drop_length_add_append, List.append_assoc, List.drop_append_of_le_length (by omega)]
 rw [t1, t2]
 simp only [List.append_assoc]
end
theorem uE_len (x : Int) : (uE x).length = 1 := rfl
theorem iE_len (x : Int) : (iE x).length = 1 := rfl
theorem opcE_len (x : S120) : (opcE x).length = 5 := rfl
theorem ndE_len (x : S125) : (ndE x).length = 2 := rfl
theorem prE_len (x : S129) : (prE x).length = 2 := rfl
theorem uE_one (x : Int) : (uE x).all (fun u => u.oneCell') = true := rfl
theorem iE_one (x : Int) : (iE x).all (fun u => u.oneCell') = true := rfl
theorem opcE_one (x : S120) : (opcE x).all (fun u => u.oneCell') = true := rfl
theorem ndE_one (x : S125) : (ndE x).all (fun u => u.oneCell') = true := rfl
theorem prE_one (x : S129) : (prE x).all (fun u => u.oneCell') = true := rfl
structure BAt (W : World) (b : RB) (r : RA) : Prop where
 m5 : RowC W r.a5 (b.calls.flatMap iE)
 m6 : RowC W r.a6 (b.ins.flatMap iE)
 m7 : RowC W r.a7 (b.made.flatMap iE)
 m8 : RowC W r.a8 (b.ops.flatMap opcE)
 m9 : RowC W r.a9 (b.nodes.flatMap ndE)
 l5 : b.calls.length ≤ r.c5
 l6 : b.ins.length ≤ r.c6
 l7 : b.made.length ≤ r.c7
 l8 : b.ops.length ≤ r.c8
 l9 : b.nodes.length ≤ r.c9
 i : Inv b
def bBl (r : RA) (k : Nat) : Prop := rowBl r.a5 k ∨ rowBl r.a6 k ∨ rowBl r.a7 k ∨ rowBl r.a8 k ∨ rowBl r.a9 k
theorem BAt.keep {w w1 : World} {b : RB} {r : RA} (h : BAt w b r) (hs : w.heap.size ≤ w1.heap.size) (hk : ∀ k, bBl r k → k < w.heap.size → w1.heap[k]? = w.heap[k]?) : BAt w1 b r :=
 ⟨h.m5.keep hs (fun k q => hk k (.inl q)), h.m6.keep hs (fun k q => hk k (.inr (.inl q))), h.m7.keep hs (fun k q => hk k (.inr (.inr (.inl q)))), h.m8.keep hs (fun k q => hk k (.inr (.inr (.inr (.inl q))))), h.m9.keep hs (fun k q => hk k (.inr (.inr (.inr (.inr q))))), h.l5, h.l6, h.l7, h.l8, h.l9, h.i⟩
theorem BAt.lt {w : World} {b : RB} {r : RA} (h : BAt w b r) (k : Nat) (hk : bBl r k) : k < w.heap.size := by
 rcases hk with ⟨ad, e, rfl⟩ | ⟨ad, e, rfl⟩ | ⟨ad, e, rfl⟩ | ⟨ad, e, rfl⟩ | ⟨ad, e, rfl⟩
 ·exact (h.m5.1 ad e).1
 ·exact (h.m6.1 ad e).1
 ·exact (h.m7.1 ad e).1
 ·exact (h.m8.1 ad e).1
 ·exact (h.m9.1 ad e).1
def bRep (b : RB) (r : RA) : PRep := ⟨fun w => BAt w b r, bBl r, fun w k h hk => h.lt k hk, fun w w1 h hs hk => h.keep hs hk⟩
structure WAt (W : World) (w : RW) (x : RX) : Prop where
 m : RowC W x.A (w.ws.flatMap uE)
 l : w.ws.length ≤ x.C
 s : w.ws.length ≤ 1000000
 b : BAt W w.b x.r
def wBl (x : RX) (k : Nat) : Prop := rowBl x.A k ∨ bBl x.r k
def wRep (w : RW) (x : RX) : PRep := ⟨fun W => WAt W w x, wBl x, fun W k h hk => by rcases hk with ⟨ad, e, rfl⟩ | hk; exact (h.m.1 ad e).1; exact h.b.lt k hk, fun w w1 h hs hk => ⟨h.m.keep hs (fun k q => hk k (.inl q)), h.l, h.s, h.b.keep hs (fun k q => hk k (.inr q))⟩⟩
theorem wget {R : List PRep} {W : World} {w : RW} {x : RX} (h : RepAt R W) (i : Nat) (hi : R[i]? = some (wRep w x)) : WAt W w x := h.get i hi
theorem bget {R : List PRep} {W : World} {b : RB} {r : RA} (h : RepAt R W) (i : Nat) (hi : R[i]? = some (bRep b r)) : BAt W b r := h.get i hi
theorem row_some {W : World} {A : Option Addr} {cs : List Value} (h : RowC W A cs) (hn : 0 < cs.length) : ∃ ad, A = some ad := by
 cases A with
 | none => rw [h.2 rfl] at hn; simp at hn
 | some ad => exact ⟨ad, rfl⟩
theorem C_flatM {α : Type} {d : Kd α} {enc : α → List Value} (hz : 0 < d.sz) (h : ∀ x, (enc x).length = d.sz) {W : World} (hK : ∀ x, d.K W x (enc x)) {A : Option Addr} {l : List α} (hr : RowC W A (l.flatMap enc)) (hl : l.length ≤ 9223372036854775807) : Kd.C d W A l.length l := by
 refine ⟨rfl, hl, fun hn => ?_⟩
 have hlen := flat_len h l
 obtain ⟨ad, rfl⟩ := row_some hr (by rw [hlen]; exact Nat.mul_pos hn hz)
 refine ⟨ad, rfl, fun j p hj => ⟨enc p, h p, hK p, fun i u hu => ?_⟩⟩
 obtain ⟨hjl, rfl⟩ := List.getElem?_eq_some_iff.mp hj
 have hi : i < d.sz := by have := (List.getElem?_eq_some_iff.mp hu).1; rwa [h] at this
 refine (hr.1 ad rfl).2 _ u ?_
 have := flat_get h l j i hjl hi []
 rw [List.append_nil] at this
 rw [this]
 exact hu
theorem C_flat {α : Type} {d : Kd α} {enc : α → List Value} (hz : 0 < d.sz) (h : ∀ x, (enc x).length = d.sz) {W : World} (hK : ∀ x, d.K W x (enc x)) {A : Option Addr} {l : List α} (hr : RowC W A (l.flatMap enc)) (hl : l.length ≤ 1000000) : Kd.C d W A l.length l := C_flatM hz h hK hr (by omega)
section
variable {P : Program} {E : TE} {α : Type} {enc : α → List Value} {sz : Nat} {d : α}
theorem getD_lt (l : List α) (i : Nat) (h : i < l.length) (d : α) : l.getD i d = l[i] := by rw [List.getD_eq_getElem?_getD, List.getElem?_eq_getElem h]; rfl
theorem row1 (hE : E.ok P) {t k : Nat} (hsz : E.sz.lookup t = some (false, k)) {w : World} {ad : Addr} {l : List α} (h : RowC w (some ad) (l.flatMap enc)) (hl : ∀ x, (enc x).length = sz) {o : Nat} (ho : o < sz) {i : Int} (hi : i.toNat < l.length) (v : Value) (hv : (enc (l.getD i.toNat d))[o]? = some v) : (Instr.loadAt t (.pointer (some (ad.add (i.toNat * sz + o))))).run P w = .ok v w := by
 refine row_load1 hE hsz h ?_
 have := flat_get hl l i.toNat o hi ho []
 rw [List.append_nil] at this
 rw [this, ← getD_lt l i.toNat hi d]
 exact hv
theorem rowA (hE : E.ok P) {t k : Nat} (hsz : E.sz.lookup t = some (true, k)) {w : World} {ad : Addr} {l : List α} (h : RowC w (some ad) (l.flatMap enc)) (hl : ∀ x, (enc x).length = sz) {o : Nat} (ho : o + k ≤ sz) {i : Int} (hi : i.toNat < l.length) (vs : List Value) (hv : ((enc (l.getD i.toNat d)).drop o).take k = vs) (hk : vs.length = k) : (Instr.loadAt t (.pointer (some (ad.add (i.toNat * sz + o))))).run P w = .ok (.agg vs.toArray) w := by
 refine row_loadA hE hsz h ?_ hk
 have := flat_at hl l i.toNat o k hi ho []
 rw [List.append_nil] at this
 rw [this, ← getD_lt l i.toNat hi d]
 exact hv
theorem own1 {l : List α} {sp : List Value} (hl : ∀ x, (enc x).length = sz) {o : Nat} (ho : o < sz) {i : Int} (hi : i.toNat < l.length) (v : Value) (hv : (enc (l.getD i.toNat d))[o]? = some v) : ((l.flatMap enc ++ sp).map SV.v)[i.toNat * sz + o]? = some (.v v) := by
 rw [List.getElem?_map, flat_get hl l i.toNat o hi ho sp, ← getD_lt l i.toNat hi d, hv]
 rfl
theorem ownIn {l : List α} {sp : List Value} (hl : ∀ x, (enc x).length = sz) {o k : Nat} (ho : o + k ≤ sz) {i : Int} (hi : i.toNat < l.length) : i.toNat * sz + o + k ≤ ((l.flatMap enc ++ sp).map SV.v).length := by
 rw [List.length_map, List.length_append, flat_len hl]
 have : (i.toNat + 1) * sz ≤ l.length * sz := Nat.mul_le_mul_right _ hi
 rw [Nat.succ_mul] at this
 omega
theorem ownPut {l : List α} {sp : List Value} (hl : ∀ x, (enc x).length = sz) {o k : Nat} (vs : List Value) (hk : vs.length = k) (ho : o + k ≤ sz) {i : Int} (hi : i.toNat < l.length) (y : α) (hy : lput (enc (l.getD i.toNat d)) o vs = enc y) : lput ((l.flatMap enc ++ sp).map SV.v) (i.toNat * sz + o) (vs.map SV.v) = (((l.set i.toNat y).flatMap enc) ++ sp).map SV.v := by
 rw [← lput_map]
 rw [flat_put hl l i.toNat o hi vs (by omega) y (by rw [← getD_lt l i.toNat hi d]; exact hy) sp]
end
section
variable {P : Program} {Q : Exit → Act → World → Prop} {W0 : World} {F : Fr} {kn : List Nat} {R : List PRep} {S : St} {m : Md}
theorem rf_know {p : Prop} (h : ∀ W, RepAt R W → p) (hG : p → Go P Q W0 F kn R S m) : Go P Q W0 F kn R S m := fun γ W hk hl hB hT hg => hG (h W hB.rep) γ W hk hl hB hT hg
end
theorem FreshIn.of {R R' : List PRep} {W : World} {r : PRep} (h : FreshIn R W r) (h1 : ∀ q, q ∈ R → ∀ k, q.bl k → ∃ u, u ∈ R' ∧ u.bl k) : FreshIn R' W r := fun k hk => (h k hk).imp id (fun ⟨q, hq, hk⟩ => h1 q hq k hk)
theorem FreshIn.one {R' : List PRep} {W : World} {r q : PRep} (h : FreshIn [q] W r) (h1 : ∀ k, q.bl k → ∃ u, u ∈ R' ∧ u.bl k) : FreshIn R' W r := h.of (fun u hu k hk => by obtain rfl := List.mem_singleton.mp hu; exact h1 k hk)
structure RM where
 ws : List Int
 st : Int
structure MX where
 A : Option Addr
 C : Nat
def encM (m : RM) (x : MX) : List Value := [.slice x.A m.ws.length x.C, .int .i64 m.st]
structure MAt (W : World) (q : RM) (x : MX) : Prop where
 m : RowC W x.A (q.ws.flatMap uE)
 l : q.ws.length ≤ x.C
 s : q.ws.length ≤ 1000000
def mRep (m : RM) (x : MX) : PRep := ⟨fun W => MAt W m x, rowBl x.A, fun W k h hk => by obtain ⟨ad, e, rfl⟩ := hk; exact (h.m.1 ad e).1, fun w w1 h hs hk => ⟨h.m.keep hs hk, h.l, h.s⟩⟩
theorem mget {R : List PRep} {W : World} {m : RM} {x : MX} (h : RepAt R W) (i : Nat) (hi : R[i]? = some (mRep m x)) : MAt W m x := h.get i hi
theorem row_blk {W : World} {g t : Nat} {cs sp : List Value} (h : W.heap[g]? = some (.cells (cs ++ sp).toArray t (0, 0))) : RowC W (some ⟨g, 0, none⟩) cs := by
 refine ⟨fun ad e => ?_, fun e => by cases e⟩
 obtain rfl := Option.some.inj e
 refine ⟨blk_lt h, fun j u hj => World.news_of_block h j u ?_⟩
 have := (List.getElem?_eq_some_iff.mp hj).1
 simp [List.getElem?_append_left this, hj]
theorem rowBl_blk {g k : Nat} (h : rowBl (some ⟨g, 0, none⟩) k) : k = g := by
 obtain ⟨ad, e, rfl⟩ := h
 obtain rfl := Option.some.inj e
 rfl
theorem fresh_nil {R : List PRep} {W : World} {r : PRep} (h : FreshIn [] W r) : FreshIn R W r := h.of (fun q hq => by cases hq)
section
variable {P : Program} {E : TE} {Q : Exit → Act → World → Prop} {W0 : World} {F : Fr} {kn : List Nat} {R : List PRep} {S : St} {m : Md} {α : Type} {enc : α → List Value}
theorem row_none {W : World} {A : Option Addr} {l : List α} {sz : Nat} (h : RowC W A (l.flatMap enc)) (hl : ∀ x, (enc x).length = sz) (h0 : 0 < sz) (hA : A = none) : l.length = 0 := by
 have e := congrArg List.length (h.2 hA)
 rw [flat_len hl] at e
 rcases Nat.eq_zero_or_pos l.length with q | q
 ·exact q
 ·have := Nat.mul_pos q h0
  simp at e
  omega
theorem flat_one (h1 : ∀ x, (enc x).all (fun u => u.oneCell') = true) : ∀ l : List α, (l.flatMap enc).all (fun u => u.oneCell') = true
 | [] => rfl
 | x :: r => by rw [List.flatMap_cons, List.all_append, h1 x, flat_one h1 r]; rfl
theorem rf_slot (d : Nat) {s : SV} (s' : SV) (h : S.T[d]? = some s) (he : s = s') (hG : Go P Q W0 F kn R ⟨S.L, S.T.set d s'⟩ m) : Go P Q W0 F kn R S m := by
 subst he
 obtain ⟨L, T⟩ := S
 obtain ⟨h1, h2⟩ := List.getElem?_eq_some_iff.mp h
 have e : T.set d s = T := by rw [← h2, List.set_getElem_self]
 have hG' : Go P Q W0 F kn R ⟨L, T.set d s⟩ m := hG
 rw [e] at hG'
 exact hG'
theorem rf_apL (hE : E.ok P) (cl' : Bool) {t e size by_ i n c : Nat} {x : SV} (l l2 l3 : List α) {sp : List Value} (hlen : ∀ x, (enc x).length = size) (h1 : ∀ x, (enc x).all (fun u => u.oneCell') = true) (h : shp S m = some (.ap t (.sl i n c) x)) (hok : okS cl' m = true) (hel : E.el.lookup t = some (e, size, by_)) (hb : getB S.L i = some ⟨true, e, (l.flatMap enc ++ sp).map .v⟩)
    (hn : l.length = n) (hall : (l.flatMap enc ++ sp).length = c * size) (hnc : n ≤ c) (hc : c ≤ maxLen) (hmm : l.length + l2.length ≤ 1000000) (hby : by_ ≤ 1000000) (h3 : l ++ l2 = l3)
    (hx : ∀ γ W, Known kn γ → Bq W0 F γ S.L R W → NewsAt γ l2.length x (l2.flatMap enc) W) (hld : cl' = true → i ∉ ldOf m)
    (hG : ∀ c' sp', (l3.flatMap enc ++ sp').length = c' * size → l3.length ≤ c' → c' ≤ maxLen → Go P Q W0 F kn R ⟨S.L.set i none ++ [some ⟨true, e, (l3.flatMap enc ++ sp').map .v⟩], putT S.T (dstV S m) (.sl S.L.length l3.length c')⟩ (setCl cl' (afterV m))) : Go P Q W0 F kn R S m := by
  subst h3 hn
  refine rf_apO hE cl' h hok hel hb (by rw [flat_len hlen]) hall hnc hc (news := l2.flatMap enc) (mm := l2.length) (by rw [flat_len hlen]) (flat_one h1 l2) hmm hby hx hld (fun c' sp' q1 q2 q3 => ?_)
  have e1 : l.flatMap enc ++ l2.flatMap enc = (l ++ l2).flatMap enc := by rw [List.flatMap_append]
  have := hG c' sp' (by rw [← e1]; exact q1) (by rw [List.length_append]; exact q2) q3
  rw [List.length_append, ← e1] at this
  exact this
theorem rf_mkL (hE : E.ok P) (cl' : Bool) {t e size by_ : Nat} {k k' : IntKind} {n : Int} (d : α) (zs : List Value) (hz : enc d = zs) (h : shp S m = some (.mk t (.v (.int k n)) (.v (.int k' n)))) (hok : okS cl' m = true) (hel : E.el.lookup t = some (e, size, by_)) (hzc : E.zc.lookup e = some zs) (h0 : 0 ≤ n) (h1 : n ≤ 1000000) (hby : by_ ≤ 1000000)
    (hG : Go P Q W0 F kn R ⟨S.L ++ [some ⟨true, e, ((List.replicate n.toNat d).flatMap enc ++ []).map .v⟩], putT S.T (dstV S m) (.sl S.L.length (List.replicate n.toNat d).length n.toNat)⟩ (setCl cl' (afterV m))) : Go P Q W0 F kn R S m := by
  refine rf_mk hE cl' zs h hok hel hzc h0 h1 hby ?_
  have e1 : (List.replicate n.toNat d).flatMap enc ++ [] = (List.replicate n.toNat zs).flatten := by rw [List.append_nil, List.flatMap_def, List.map_replicate, hz]
  rw [e1, List.length_replicate] at hG
  exact hG
end
theorem ld_of {m : Md} {i : Nat} (h : (ldOf m).elem i = false) : i ∉ ldOf m := fun q => by rw [List.elem_iff.mpr q] at h; cases h
structure IX where
 A : Option Addr
 C : Nat
structure IAt (W : World) (q : List Int) (x : IX) : Prop where
 m : RowC W x.A (q.flatMap iE)
 l : q.length ≤ x.C
 s : q.length ≤ 1000000
def iRep (l : List Int) (x : IX) : PRep := ⟨fun W => IAt W l x, rowBl x.A, fun W k h hk => by obtain ⟨ad, e, rfl⟩ := hk; exact (h.m.1 ad e).1, fun w w1 h hs hk => ⟨h.m.keep hs hk, h.l, h.s⟩⟩
theorem iget {R : List PRep} {W : World} {l : List Int} {x : IX} (h : RepAt R W) (i : Nat) (hi : R[i]? = some (iRep l x)) : IAt W l x := h.get i hi
theorem Inv.big {b : RB} (h : Inv b) : b.calls.length ≤ 1000000 ∧ b.ins.length ≤ 1000000 ∧ b.made.length ≤ 1000000 ∧ b.ops.length ≤ 1000000 ∧ b.nodes.length ≤ 1000000 := by
 have := h.small
 have := h.li
 have := h.lm
 omega
theorem w64 {n : Int} (h0 : -9223372036854775808 ≤ n) (h1 : n ≤ 9223372036854775807) : IntKind.i64.wrap n = n := by
 show (if (true && decide (n % 2 ^ 64 ≥ 2 ^ 63)) = true then n % 2 ^ 64 - 2 ^ 64 else n % 2 ^ 64) = n
 rw [Bool.true_and]
 by_cases h : n % 2 ^ 64 ≥ 2 ^ 63
 ·rw [if_pos (by simpa using h)]; omega
 ·rw [if_neg (by simpa using h)]; omega
theorem row_nil {α : Type} {enc : α → List Value} {W : World} : RowC W none (([] : List α).flatMap enc) := ⟨fun _ e => (by cases e), fun _ => rfl⟩
theorem rowBl_none {k : Nat} {p : Prop} (h : rowBl none k) : p := by obtain ⟨ad, e, _⟩ := h; cases e
section
variable {α : Type} {enc : α → List Value} {sz : Nat} {d : α}
theorem ownPutE {l : List α} {sp : List Value} (hl : ∀ x, (enc x).length = sz) {o k : Nat} (vs : List Value) (hk : vs.length = k) (ho : o + k ≤ sz) {i : Int} (hi : i.toNat < l.length) (y : α) (hy : lput (enc (l.getD i.toNat d)) o vs = enc y) {l3 : List α} (h3 : l.set i.toNat y = l3) : lput ((l.flatMap enc ++ sp).map SV.v) (i.toNat * sz + o) (vs.map SV.v) = ((l3.flatMap enc) ++ sp).map SV.v := by
 subst h3
 exact ownPut hl vs hk ho hi y hy
theorem getD_set_eq {l : List α} {i : Nat} {y : α} (h : i < l.length) : (l.set i y).getD i d = y := by
 rw [List.getD_eq_getElem?_getD, List.getElem?_set_self h]
 rfl
end
section
variable {P : Program} {E : TE} {α : Type} {enc : α → List Value} {sz : Nat} {d : α}
theorem row1' (hE : E.ok P) {t k : Nat} (hsz : E.sz.lookup t = some (false, k)) {w : World} {ad : Addr} {l : List α} (h : RowC w (some ad) (l.flatMap enc)) (hl : ∀ x, (enc x).length = sz) {o : Nat} (ho : o < sz) {i : Int} (hi : i.toNat < l.length) (v : Value) (hv : (enc (l.getD i.toNat d))[o]? = some v) {of : Nat} (hof : of = i.toNat * sz + o) : (Instr.loadAt t (.pointer (some (ad.add of)))).run P w = .ok v w := by subst hof; exact row1 hE hsz h hl ho hi v hv
theorem rowA' (hE : E.ok P) {t k : Nat} (hsz : E.sz.lookup t = some (true, k)) {w : World} {ad : Addr} {l : List α} (h : RowC w (some ad) (l.flatMap enc)) (hl : ∀ x, (enc x).length = sz) {o : Nat} (ho : o + k ≤ sz) {i : Int} (hi : i.toNat < l.length) (vs : List Value) (hv : ((enc (l.getD i.toNat d)).drop o).take k = vs) (hk : vs.length = k) {of : Nat} (hof : of = i.toNat * sz + o) : (Instr.loadAt t (.pointer (some (ad.add of)))).run P w = .ok (.agg vs.toArray) w := by subst hof; exact rowA hE hsz h hl ho hi vs hv hk
theorem own1' {l : List α} {sp : List Value} (hl : ∀ x, (enc x).length = sz) {o : Nat} (ho : o < sz) {i : Int} (hi : i.toNat < l.length) (v : Value) (hv : (enc (l.getD i.toNat d))[o]? = some v) {of : Nat} (hof : of = i.toNat * sz + o) : ((l.flatMap enc ++ sp).map SV.v)[of]? = some (.v v) := by subst hof; exact own1 hl ho hi v hv
theorem ownIn' {l : List α} {sp : List Value} (hl : ∀ x, (enc x).length = sz) {o k : Nat} (ho : o + k ≤ sz) {i : Int} (hi : i.toNat < l.length) {of : Nat} (hof : of = i.toNat * sz + o) : of + k ≤ ((l.flatMap enc ++ sp).map SV.v).length := by subst hof; exact ownIn hl ho hi
theorem ownPut' {l : List α} {sp : List Value} (hl : ∀ x, (enc x).length = sz) {o k : Nat} (vs : List Value) (hk : vs.length = k) (ho : o + k ≤ sz) {i : Int} (hi : i.toNat < l.length) (y : α) (hy : lput (enc (l.getD i.toNat d)) o vs = enc y) {l3 : List α} (h3 : l.set i.toNat y = l3) {of : Nat} (hof : of = i.toNat * sz + o) {vv : List SV} (hvv : vv = vs.map SV.v) : lput ((l.flatMap enc ++ sp).map SV.v) of vv = ((l3.flatMap enc) ++ sp).map SV.v := by subst hof hvv; exact ownPutE hl vs hk ho hi y hy h3
end
end Go.Proofs.Ytbhakljebcmocaa.PBoundKeeps
end
section
namespace Go.Proofs.Ytbhakljebcmocaa.PBoundKeeps
open Go.RowKit Go.Proofs.YtbhakljebcmocaaW.PrintWords Go.Proofs.YtbhakljebcmocaaW.PrintLast Go.Proofs.YtbhakljebcmocaaW.PrintMore
set_option linter.unusedVariables false
set_option linter.unusedSimpArgs false
def OkC (c : S23) : Prop := Ok c.f0 c.f1 c.f2 c.f3 c.f4
instance (c : S23) : Decidable (OkC c) := by unfold OkC; infer_instance
def pIndex (w : Int) : Int := wrap64 (IntKind.u64.wrap (Int.tdiv w 2))
def pMarked (w : Int) : Bool := Int.tmod w 2 == 1
def pPack (n : Int) (b : Bool) : Int := if n < 0 ∨ n > 2147483647 then 0 else if b = true then IntKind.u64.wrap (IntKind.u64.wrap (2 * IntKind.u64.wrap n) + 1) else IntKind.u64.wrap (2 * IntKind.u64.wrap n)
def pMark (w : Int) : Int := if Int.tmod w 2 = 0 then IntKind.u64.wrap (w + 1) else w
def pOver (w : Int) : Bool := decide (w ≥ 2)
def pOf (w : Int) : Int := if w < 2 then -1 else if w > 2147483649 then -1 else wrap64 (wrap64 w - 2)
def pBy (w : Int) : Int := if w < 3 then -1 else if w > 2147483650 then -1 else wrap64 (wrap64 w - 3)
def pTarget (n : Int) : Int := if 0 ≤ n ∧ n ≤ 2147483647 then IntKind.u64.wrap (IntKind.u64.wrap n + 2) else 0
def pOut (n : Int) : Int := if 0 ≤ n ∧ n ≤ 2147483647 then IntKind.u64.wrap (IntKind.u64.wrap n + 3) else 0
def pNx (a b : Int) : Int := if a < -1 then 0 else if a ≥ b then 0 else if wrap64 (a + 1) ≥ b then 0 else wrap64 (a + 1)
def lNext (c : S23) (n : Int) : Int := if OkC c ∧ 0 ≤ n ∧ n < 1 + c.f1 + 2 * (c.f0 * c.f4) then n else -1
def lWord (c : S23) (n : Int) : Int := if OkC c ∧ 0 ≤ n ∧ n < c.f0 * c.f4 then 1 + c.f1 + 2 * (c.f0 * c.f4) + n else -1
def lAnn (c : S23) (n : Int) : Int := if OkC c ∧ 0 ≤ n ∧ n < c.f0 then 1 + c.f1 + 2 * (c.f0 * c.f4) + c.f0 * c.f4 + n else -1
def lHead (c : S23) (n : Int) : Int := if OkC c ∧ 0 ≤ n ∧ n < c.f1 then 1 + n else -1
def lLen (c : S23) : Int := if OkC c then 1 + c.f1 + 2 * (c.f0 * c.f4) + c.f0 * c.f4 + c.f0 else 0
def pBucket (k b : Int) : Int := (corrieref03_Bucket.f 9 k b).getD 0
theorem bucket_l0 : ∀ (k : Nat) (h c b : Int), 0 ≤ b → b ≤ 1000 → b < 2 ^ k → ∃ v, corrieref03_Bucket.l0 (k + 1) h c b = some v
 | 0, h, c, b, h0, h2, h1 => by
  simp only [Int.pow_zero] at h1
  unfold corrieref03_Bucket.l0
  rw [if_neg (by omega)]
  exact ⟨_, rfl⟩
 | k + 1, h, c, b, h0, h2, h1 => by
  unfold corrieref03_Bucket.l0
  by_cases q : b > 1
  ·rw [if_pos q]
   have e : Int.tdiv b 2 = b / 2 := Int.tdiv_eq_ediv_of_nonneg h0
   have hb : b / 2 < 2 ^ k := by rw [Int.pow_succ] at h1; omega
   rw [e, wrap64_eq (n := b / 2) (by omega) (by omega)]
   split
   ·exact bucket_l0 k _ _ _ (by omega) (by omega) hb
   ·exact bucket_l0 k _ _ _ (by omega) (by omega) hb
  ·rw [if_neg q]
   exact ⟨_, rfl⟩
theorem bucket_some (k b : Int) : corrieref03_Bucket.f 9 k b = some (pBucket k b) := by
 have h : ∃ v, corrieref03_Bucket.f 9 k b = some v := by
  unfold corrieref03_Bucket.f
  rw [rpow_eq, Option.bind_some]
  by_cases hp : isPow b = true
  ·rw [if_pos hp]
   have hb := isPow_le hp
   exact bucket_l0 8 _ _ _ (by omega) (by omega) (by omega)
  ·rw [if_neg hp]
   exact ⟨_, rfl⟩
 obtain ⟨v, hv⟩ := h
 unfold pBucket
 rw [hv]
 rfl
theorem bel {P : Program} {f : FuncId} {args : Array Value} {W : World} {e0 : Ending} (h : Calls P f args W fun e w' => e = e0 ∧ Drawn0 W w') : Calls P f args W fun e w' => e = e0 ∧ Below W.heap.size W w' := h.mono fun _ _ hh => ⟨hh.1, hh.2.below⟩
theorem c01_Index (a : Int) (W : World) : Calls Try.prog 43 #[.int .u64 a] W fun e w' => e = .returned (.int .i64 (pIndex a)) ∧ Below W.heap.size W w' := bel (corrieref01_Index.calls a _ W rfl)
theorem c01_Marked (a : Int) (W : World) : Calls Try.prog 97 #[.int .u64 a] W fun e w' => e = .returned (.bool (pMarked a)) ∧ Below W.heap.size W w' := bel (corrieref01_Marked.calls a _ W rfl)
theorem pack_eq (n : Int) (b : Bool) : corrieref01_Pack.f 1 n b = some (pPack n b) := by
 unfold corrieref01_Pack.f corrieref01_Pack.j0 pPack
 by_cases h1 : n < 0
 ·simp [h1]
 ·by_cases h2 : n > 2147483647
  ·simp [h1, h2]
  ·cases b <;> simp [h1, h2]
theorem c01_Pack (n : Int) (b : Bool) (W : World) : Calls Try.prog 78 #[.int .i64 n, .bool b] W fun e w' => e = .returned (.int .u64 (pPack n b)) ∧ Below W.heap.size W w' := bel (corrieref01_Pack.calls 1 n b _ W (pack_eq n b))
theorem c01_Mark (a : Int) (W : World) : Calls Try.prog 88 #[.int .u64 a] W fun e w' => e = .returned (.int .u64 (pMark a)) ∧ Below W.heap.size W w' := bel (corrieref01_Mark.calls a _ W (by unfold corrieref01_Mark.f pMark; split <;> rfl))
theorem c02_Over (a : Int) (W : World) : Calls Try.prog 102 #[.int .u64 a] W fun e w' => e = .returned (.bool (pOver a)) ∧ Below W.heap.size W w' := bel (corrieref02_Over.calls a _ W rfl)
theorem c02_Of (a : Int) (W : World) : Calls Try.prog 82 #[.int .u64 a] W fun e w' => e = .returned (.int .i64 (pOf a)) ∧ Below W.heap.size W w' := bel (corrieref02_Of.calls a _ W (by unfold corrieref02_Of.f pOf; split; rfl; split <;> rfl))
theorem c02_By (a : Int) (W : World) : Calls Try.prog 92 #[.int .u64 a] W fun e w' => e = .returned (.int .i64 (pBy a)) ∧ Below W.heap.size W w' := bel (corrieref02_By.calls a _ W (by unfold corrieref02_By.f pBy; split; rfl; split <;> rfl))
theorem c02_Target (a : Int) (W : World) : Calls Try.prog 85 #[.int .i64 a] W fun e w' => e = .returned (.int .u64 (pTarget a)) ∧ Below W.heap.size W w' := bel (corrieref02_Target.calls a _ W (by
 unfold corrieref02_Target.f corrieref02_may.f pTarget
 by_cases h1 : a ≥ 0
 ·by_cases h2 : a ≤ 2147483647
  ·simp [h1, h2]
  ·simp [h1, h2]
 ·simp [h1]))
theorem c02_Out (a : Int) (W : World) : Calls Try.prog 83 #[.int .i64 a] W fun e w' => e = .returned (.int .u64 (pOut a)) ∧ Below W.heap.size W w' := bel (corrieref02_Out.calls a _ W (by
 unfold corrieref02_Out.f corrieref02_may.f pOut
 by_cases h1 : a ≥ 0
 ·by_cases h2 : a ≤ 2147483647
  ·simp [h1, h2]
  ·simp [h1, h2]
 ·simp [h1]))
theorem c15_Next (a b : Int) (W : World) : Calls Try.prog 20 #[.int .i64 a, .int .i64 b] W fun e w' => e = .returned (.int .i64 (pNx a b)) ∧ Below W.heap.size W w' := bel (corrieref15_Next.calls a b _ W (by unfold corrieref15_Next.f pNx; split; rfl; split; rfl; split <;> rfl))
theorem c03_Bucket (a b : Int) (W : World) : Calls Try.prog 101 #[.int .u64 a, .int .i64 b] W fun e w' => e = .returned (.int .i64 (pBucket a b)) ∧ Below W.heap.size W w' := bel (corrieref03_Bucket.calls 9 a b _ W (bucket_some a b))
def keyF (b : RB) (n : Int) : Int := (opC (fOp b.ops (ndR (fNd b.nodes n)))).f1
def carF (b : RB) (n : Int) : Int := ndR (fNd b.nodes n)
def callF (b : RB) (n : Int) : S48 := opC (fOp b.ops n)
def callE (b : RB) (n : Int) : Int := opE (fOp b.ops n)
def isF (b : RB) (n : Int) : Bool := decide (0 ≤ n ∧ n < (b.calls.length : Int))
def lMay (c : S23) : Int := if OkC c then 0 else 1
def lNode (c : S23) (s n : Int) : Int := if OkC c ∧ (0 ≤ s ∧ s < c.f0) ∧ 0 ≤ n ∧ n < 2 * c.f4 then 1 + c.f1 + 2 * (s * c.f4) + n else -1
def lOp (c : S23) (s n : Int) : Int := if OkC c ∧ (0 ≤ s ∧ s < c.f0) ∧ 0 ≤ n ∧ n < c.f4 then s * c.f4 + n else -1
def fidx : List S120 → Int → Int → Int
 | [], _, _ => -1
 | x :: r, k, s => if x.f0 = k then s else fidx r k (s + 1)
def pFind (b : RB) (k : Int) : Int := fidx b.ops k 0
theorem fidx_cases : ∀ (l : List S120) (k s : Int), (fidx l k s = -1 ∧ fOp l k = none) ∨ ∃ q : Nat, q < l.length ∧ fidx l k s = s + q ∧ fOp l k = some (l.getD q z120).f1
 | [], k, s => .inl ⟨rfl, rfl⟩
 | x :: r, k, s => by
  unfold fidx fOp
  by_cases h : x.f0 = k
  ·rw [if_pos h, List.find?_cons_of_pos (by simpa using h)]
   exact .inr ⟨0, by simp, by omega, rfl⟩
  ·rw [if_neg h, List.find?_cons_of_neg (by simpa using h)]
   rcases fidx_cases r k (s + 1) with ⟨h1, h2⟩ | ⟨q, h1, h2, h3⟩
   ·exact .inl ⟨h1, h2⟩
   ·exact .inr ⟨q + 1, by simp; omega, by rw [h2]; omega, h3⟩
theorem pFind_cases (b : RB) (k : Int) : (pFind b k = -1 ∧ fOp b.ops k = none) ∨ ∃ q : Nat, q < b.ops.length ∧ pFind b k = q ∧ fOp b.ops k = some (b.ops.getD q z120).f1 := by
 rcases fidx_cases b.ops k 0 with h | ⟨q, h1, h2, h3⟩
 ·exact .inl h
 ·exact .inr ⟨q, h1, by unfold pFind; rw [h2]; omega, h3⟩
theorem drop_at {α : Type} (l : List α) (i : Int) (z : α) (h1 : i < (l.length : Int)) (h0 : 0 ≤ i) : l.drop i.toNat = l.getD i.toNat z :: l.drop (i + 1).toNat := by
 rw [List.drop_eq_getElem_cons (by omega), List.getD_eq_getElem?_getD, List.getElem?_eq_getElem (by omega), show (i + 1).toNat = i.toNat + 1 by omega]
 rfl
theorem fidx_hit {l : List S120} {k i : Int} (h0 : 0 ≤ i) (h1 : i < (l.length : Int)) (h : ((l.getD i.toNat z120).f0 == k) = true) : fidx (l.drop i.toNat) k i = i := by
 rw [drop_at l i z120 h1 h0]
 unfold fidx
 rw [if_pos (by simpa using h)]
theorem fidx_next {l : List S120} {k i : Int} (h0 : 0 ≤ i) (h1 : i < (l.length : Int)) (hl : l.length ≤ 100000) (h : ((l.getD i.toNat z120).f0 == k) = false) : fidx (l.drop i.toNat) k i = fidx (l.drop (IntKind.i64.wrap (i + 1)).toNat) k (IntKind.i64.wrap (i + 1)) := by
 rw [drop_at l i z120 h1 h0, w64 (by omega) (by omega)]
 conv => lhs; unfold fidx
 rw [if_neg (by simpa using h)]
theorem fNd_hit {l : List S125} {k i : Int} (h0 : 0 ≤ i) (h1 : i < (l.length : Int)) (h : ((l.getD i.toNat z125).f0 == k) = true) : ndR (fNd (l.drop i.toNat) k) = (l.getD i.toNat z125).f1 := by
 rw [drop_at l i z125 h1 h0]
 unfold fNd
 rw [List.find?_cons_of_pos (by simpa using h)]
 rfl
theorem fNd_next {l : List S125} {k i : Int} (h0 : 0 ≤ i) (h1 : i < (l.length : Int)) (hl : l.length ≤ 100000) (h : ((l.getD i.toNat z125).f0 == k) = false) : fNd (l.drop i.toNat) k = fNd (l.drop (IntKind.i64.wrap (i + 1)).toNat) k := by
 rw [drop_at l i z125 h1 h0, w64 (by omega) (by omega)]
 unfold fNd
 rw [List.find?_cons_of_neg (by simpa using h)]
theorem wk_ {i : Int} {n : Nat} (h0 : 0 ≤ i) (h1 : i < (n : Int)) (h2 : n ≤ 100000) : 0 ≤ IntKind.i64.wrap (i + 1) ∧ IntKind.i64.wrap (i + 1) ≤ (n : Int) ∧ ((n : Int) - IntKind.i64.wrap (i + 1)).toNat < ((n : Int) - i).toNat := by
 rw [w64 (by omega) (by omega)]
 omega
theorem pFind_eq {b : RB} (h : Inv b) (k : Int) : decide (pFind b k < 0) = !(fOp b.ops k).isSome := by
 rcases pFind_cases b k with ⟨h1, h2⟩ | ⟨q, h1, h2, h3⟩
 ·rw [h1, h2]; rfl
 ·rw [h2, h3, decide_eq_false (by omega)]; rfl
theorem isF_of {b : RB} {n : Int} (h : (!(isF b n)) = false) : 0 ≤ n ∧ n < (b.calls.length : Int) := by
 unfold isF at h
 simpa using h
theorem may_ok {c : S23} (h : OkC c) : (lMay c != 0) = false := by unfold lMay; rw [if_pos h]; rfl
theorem lLen_le {c : S23} (h : OkC c) : 0 ≤ lLen c ∧ lLen c ≤ 1000000 := by
 unfold lLen
 rw [if_pos h]
 have hb := bnds h
 have := h.2.2.2
 omega
def mayA (c : S23) : Bool := bif decide (c.f0 < 1) then true else bif decide (c.f0 > 8) then true else !(isPow c.f1)
def mayB (c : S23) : Bool := bif decide (c.f2 < 0) then true else bif decide (c.f2 > 256) then true else bif decide (c.f3 < 0) then true else bif decide (c.f3 > 65536) then true else bif decide (c.f4 < 1) then true else decide (c.f4 > 256)
theorem c03_May (b : Int) (W : World) : Calls Try.prog 18 #[.int .i64 b] W fun e w' => e = .returned (.bool (isPow b)) ∧ Below W.heap.size W w' := bel (corrieref03_May.calls b _ W (rpow_eq b))
def lOps (c : S23) : Int := if OkC c then c.f0 * c.f4 else 0
def lNodes (c : S23) : Int := if OkC c then 1 + c.f1 + 2 * (c.f0 * c.f4) else 0
def inF (c : S23) (n t : Int) : Bool := decide (OkC c ∧ 0 ≤ n ∧ n < t)
theorem pFind_lt {b : RB} (h : Inv b) (k : Int) : pFind b k < (b.ops.length : Int) := by
 rcases pFind_cases b k with ⟨h1, h2⟩ | ⟨q, h1, h2, h3⟩ <;> omega
theorem may_if (c : S23) : (lMay c == 0) = decide (OkC c) := by
 unfold lMay
 by_cases h : OkC c
 ·rw [if_pos h, decide_eq_true h]; rfl
 ·rw [if_neg h, decide_eq_false h]; rfl
end Go.Proofs.Ytbhakljebcmocaa.PBoundKeeps
end
section
namespace Go.Proofs.Ytbhakljebcmocaa.PBoundKeeps
open Go.RowKit Go.Proofs.YtbhakljebcmocaaW.PrintWords Go.Proofs.YtbhakljebcmocaaW.PrintLast Go.Proofs.YtbhakljebcmocaaW.PrintMore
set_option linter.unusedVariables false
set_option linter.unusedSimpArgs false
structure PS where
 a : Option Addr
 c : Nat
 ps : List S129
def psE (x : PS) : List Value := [.slice x.a x.ps.length x.c]
theorem psE_len (x : PS) : (psE x).length = 1 := rfl
theorem psE_one (x : PS) : (psE x).all (fun u => u.oneCell') = true := rfl
structure ScR where
 call : S48
 phase : Int
 bucket : Int
 node : Int
 next : Int
 done : Bool
 err : Int
 rdone : Bool
 rval : Int
structure SX where
 A : Option Addr
 C : Nat
 l : List PS
 pr : PS
def encSc (x : ScR) (q : SX) : List Value := [.int .i64 x.call.f0, .int .u64 x.call.f1, .int .u64 x.call.f2, .int .i64 x.call.f3, .int .i64 x.phase, .int .i64 x.bucket, .int .i64 x.node, .int .u64 x.next, .slice q.A q.l.length q.C, .bool x.done, .int .i64 x.err, .bool x.rdone, .int .u64 x.rval, .slice q.pr.a q.pr.ps.length q.pr.c]
theorem le_mx {n : Nat} (h : n ≤ 1000000) : n ≤ maxLen := Nat.le_trans h (Nat.le_of_ble_eq_true rfl)
structure PAt (W : World) (y : PS) : Prop where
 m : RowC W y.a (y.ps.flatMap prE)
 l : y.ps.length ≤ y.c
 n : y.ps.length ≤ maxLen
theorem PAt.keep {w w1 : World} {y : PS} (h : PAt w y) (hs : w.heap.size ≤ w1.heap.size) (hk : ∀ k, rowBl y.a k → k < w.heap.size → w1.heap[k]? = w.heap[k]?) : PAt w1 y := ⟨h.m.keep hs hk, h.l, h.n⟩
theorem PAt.nil {W : World} : PAt W (PS.mk none 0 []) := ⟨row_nil, Nat.le_refl _, Nat.zero_le _⟩
structure SAt (W : World) (x : ScR) (q : SX) : Prop where
 m : RowC W q.A (q.l.flatMap psE)
 l : q.l.length ≤ q.C
 s : q.l.length ≤ 1000000
 d : ∀ y, y ∈ q.l → PAt W y
 p : PAt W q.pr
def deepBl (l : List PS) (k : Nat) : Prop := ∃ y, y ∈ l ∧ rowBl y.a k
def sBl (q : SX) (k : Nat) : Prop := rowBl q.A k ∨ deepBl q.l k ∨ rowBl q.pr.a k
def sRep (x : ScR) (q : SX) : PRep := ⟨fun W => SAt W x q, sBl q, fun W k h hk => by
    rcases hk with ⟨ad, e, rfl⟩ | ⟨y, hy, ad, e, rfl⟩ | ⟨ad, e, rfl⟩
    · exact (h.m.1 ad e).1
    · exact ((h.d y hy).m.1 ad e).1
    · exact (h.p.m.1 ad e).1,
  fun w w1 h hs hk => ⟨h.m.keep hs (fun k q => hk k (.inl q)), h.l, h.s, fun y hy => (h.d y hy).keep hs (fun k q => hk k (.inr (.inl ⟨y, hy, q⟩))), h.p.keep hs (fun k q => hk k (.inr (.inr q)))⟩⟩
theorem sget {R : List PRep} {W : World} {x : ScR} {q : SX} (h : RepAt R W) (i : Nat) (hi : R[i]? = some (sRep x q)) : SAt W x q := h.get i hi
theorem getD_mem {α : Type} (l : List α) (i : Nat) (d : α) : l.getD i d ∈ l ∨ l.getD i d = d := by
 rw [List.getD_eq_getElem?_getD]
 cases h : l[i]? with
 | none => exact .inr rfl
 | some x => exact .inl (List.mem_of_getElem? h)
theorem SAt.dg {W : World} {x : ScR} {q : SX} (h : SAt W x q) (i : Nat) : PAt W (q.l.getD i (PS.mk none 0 [])) := by
 rcases getD_mem q.l i (PS.mk none 0 []) with e | e
 ·exact h.d _ e
 ·rw [e]; exact .nil
theorem deep_set {W : World} {l : List PS} {i : Nat} {z : PS} (h : ∀ y, y ∈ l → PAt W y) (hz : PAt W z) : ∀ y, y ∈ l.set i z → PAt W y := fun y hy => by
 rcases List.mem_or_eq_of_mem_set hy with h1 | rfl
 ·exact h y h1
 ·exact hz
theorem deepBl_set {l : List PS} {i k : Nat} {z : PS} {p : Prop} (h : deepBl (l.set i z) k) (h1 : deepBl l k → p) (h2 : rowBl z.a k → p) : p := by
 obtain ⟨y, hy, hk⟩ := h
 rcases List.mem_or_eq_of_mem_set hy with h3 | rfl
 ·exact h1 ⟨y, h3, hk⟩
 ·exact h2 hk
theorem deep_rep {W : World} {n : Nat} : ∀ y, y ∈ List.replicate n (PS.mk none 0 []) → PAt W y := fun y hy => by rw [(List.mem_replicate.mp hy).2]; exact .nil
theorem deepBl_rep {n k : Nat} {p : Prop} (h : deepBl (List.replicate n (PS.mk none 0 [])) k) : p := by
 obtain ⟨y, hy, hk⟩ := h
 rw [(List.mem_replicate.mp hy).2] at hk
 exact rowBl_none hk
theorem deep_nil {W : World} : ∀ y, y ∈ ([] : List PS) → PAt W y := fun y hy => by cases hy
theorem deepBl_nil {k : Nat} {p : Prop} (h : deepBl [] k) : p := by obtain ⟨y, hy, _⟩ := h; cases hy
def mx : List PS → Nat
 | [] => 0
 | x :: r => x.ps.length + mx r
theorem mx_get : ∀ (l : List PS) (i : Nat), (l.getD i (PS.mk none 0 [])).ps.length ≤ mx l
 | [], i => by simp
 | x :: r, 0 => by show x.ps.length ≤ x.ps.length + mx r; omega
 | x :: r, i + 1 => by have := mx_get r i; show (r.getD i _).ps.length ≤ x.ps.length + mx r; omega
theorem mx_app : ∀ (l : List PS) (i : Nat) (a : Option Addr) (c : Nat) (y : S129), mx (l.set i (PS.mk a c ((l.getD i (PS.mk none 0 [])).ps ++ [y]))) ≤ mx l + 1
 | [], i, a, c, y => by simp [mx]
 | x :: r, 0, a, c, y => by
  show (x.ps ++ [y]).length + mx r ≤ x.ps.length + mx r + 1
  rw [List.length_append]
  simp
  omega
 | x :: r, i + 1, a, c, y => by
  have := mx_app r i a c y
  show x.ps.length + mx (r.set i (PS.mk a c ((r.getD i (PS.mk none 0 [])).ps ++ [y]))) ≤ x.ps.length + mx r + 1
  omega
theorem mx_rep (n : Nat) : mx (List.replicate n (PS.mk none 0 [])) = 0 := by
 induction n with
 | zero => rfl
 | succ n ih => rw [List.replicate_succ, mx, ih]; rfl
theorem two_mem {W : World} {a b : PRep} (ha : a.At W) (hb : b.At W) : ∀ r, r ∈ [a, b] → r.At W := fun r hr => by
 rcases List.mem_cons.mp hr with rfl | hr
 ·exact ha
 ·obtain rfl := List.mem_singleton.mp hr; exact hb
theorem FreshIn.two {R' : List PRep} {W : World} {r a b : PRep} (h : FreshIn [a, b] W r) (h1 : ∀ k, a.bl k → ∃ u, u ∈ R' ∧ u.bl k) (h2 : ∀ k, b.bl k → ∃ u, u ∈ R' ∧ u.bl k) : FreshIn R' W r := h.of (fun u hu k hk => by
 rcases List.mem_cons.mp hu with rfl | hu
 ·exact h1 k hk
 ·obtain rfl := List.mem_singleton.mp hu; exact h2 k hk)
end Go.Proofs.Ytbhakljebcmocaa.PBoundKeeps
end
section
namespace Go.Proofs.Ytbhakljebcmocaa.PBoundKeeps
open Go.RowKit Go.Proofs.YtbhakljebcmocaaW.PrintWords Go.Proofs.YtbhakljebcmocaaW.PrintLast Go.Proofs.YtbhakljebcmocaaW.PrintMore
set_option linter.unusedVariables false
set_option linter.unusedSimpArgs false
theorem RowC.keep' {w w1 : World} {A : Option Addr} {cs : List Value} (h : RowC w A cs) (hk : ∀ k, k < w.heap.size → w1.heap[k]? = w.heap[k]?) : RowC w1 A cs := by
 refine ⟨fun ad e => ?_, h.2⟩
 obtain ⟨h1, h2⟩ := h.1 ad e
 have e0 : w1.heap[ad.block]? = w.heap[ad.block]? := hk _ h1
 refine ⟨?_, fun j u hj => ?_⟩
 ·rw [Array.getElem?_eq_getElem h1] at e0
  exact (Array.getElem?_eq_some_iff.mp e0).1
 ·rw [World.cell?_of_block (w := w) (w' := w1) (by
   have e1 : (ad.add j).block = ad.block := by unfold Addr.add; split <;> rfl
   rw [e1]; exact e0)]
  exact h2 j u hj
theorem pr_C {W : World} {y : PS} (h : PAt W y) : k129.C W y.a y.ps.length y.ps := C_flatM (enc := prE) (by decide) (fun _ => rfl) (fun x => k129_mk W x) h.m (Nat.le_trans h.n (Nat.le_of_ble_eq_true rfl))
theorem sc_C {W : World} {A : Option Addr} {l : List PS} (hm : RowC W A (l.flatMap psE)) (hd : ∀ y, y ∈ l → PAt W y) (hs : l.length ≤ 1000000) (hx : mx l ≤ 1000000) : Kd.C (Kd.slice 129 k129) W A (l.map PS.ps).length (l.map PS.ps) := by
 refine ⟨rfl, by rw [List.length_map]; omega, fun hn => ?_⟩
 rw [List.length_map] at hn
 obtain ⟨ad, rfl⟩ := row_some hm (by rw [flat_len psE_len]; omega)
 refine ⟨ad, rfl, fun j p hj => ?_⟩
 rw [List.getElem?_map] at hj
 obtain ⟨y, hy, rfl⟩ := map_some' hj
 have hym := List.mem_of_getElem? hy
 have hyl : y.ps.length ≤ mx l := by
  have := mx_get l j
  rw [List.getD_eq_getElem?_getD, hy] at this
  exact this
 refine ⟨[.slice y.a y.ps.length y.c], rfl, ⟨y.a, y.c, rfl, (hd y hym).l, pr_C (hd y hym)⟩, fun i u hu => ?_⟩
 obtain ⟨hjl, rfl⟩ := List.getElem?_eq_some_iff.mp hy
 have hi : i < 1 := by have := (List.getElem?_eq_some_iff.mp hu).1; simpa using this
 refine (hm.1 ad rfl).2 _ u ?_
 have := flat_get psE_len l j i hjl hi []
 rw [List.append_nil] at this
 have e : (Kd.slice 129 k129).sz = 1 := rfl
 rw [e, this]
 exact hu
def ln : List (List S129) → Nat
 | [] => 0
 | x :: r => x.length + ln r
theorem ln_map : ∀ l : List PS, ln (l.map PS.ps) = mx l
 | [] => rfl
 | x :: r => by show x.ps.length + ln (r.map PS.ps) = _; rw [ln_map r]; rfl
theorem ln_set : ∀ (l : List (List S129)) (i : Nat), i < l.length → 0 < (l.getD i []).length → ln (l.set i ((l.getD i []).drop 1)) + 1 = ln l
 | [], i, h, _ => by simp at h
 | x :: r, 0, _, h => by
  have h' : 0 < x.length := h
  show (x.drop 1).length + ln r + 1 = x.length + ln r
  rw [List.length_drop]
  omega
 | x :: r, i + 1, h, h2 => by
  have := ln_set r i (by simpa using h) h2
  show x.length + ln (r.set i ((r.getD i []).drop 1)) + 1 = x.length + ln r
  omega
theorem pairs_in (lim : Int) (out : List S129) (rest : List (List S129)) (hr : rest.length ≤ 1000000) (ho : out.length ≤ 1000000)
    (IH : ∀ (out' : List S129) (rest' : List (List S129)), ln rest' + 1 = ln rest → rest'.length = rest.length → out'.length = out.length + 1 → ∃ k r, corrieref17_Pairs.l0 k lim out' rest' = some r) :
    ∀ (d : Nat) (i : Nat) (best : Int), rest.length - i = d → i ≤ rest.length → (best < 0 ∨ (0 ≤ best ∧ best < rest.length ∧ 0 < (rd_L5 rest best).length)) → ∃ k r, corrieref17_Pairs.l1 k lim out rest best i = some r
  | 0, i, best, hd, hi, hb => by
    have e : i = rest.length := by omega
    subst e
    rcases hb with hb | ⟨b0, b1, b2⟩
    · refine ⟨1, out, ?_⟩
      unfold corrieref17_Pairs.l1
      rw [if_neg (by omega), if_pos hb]
    · have hbn : best.toNat < rest.length := by omega
      obtain ⟨k, r, h⟩ := IH (out ++ [(⟨(rd_T129 (rd_L5 rest best) 0).f0, (rd_T129 (rd_L5 rest best) 0).f1⟩ : S129)]) (rest.set best.toNat ((rd_L5 rest best).drop 1)) (ln_set rest best.toNat hbn b2) (List.length_set) (by simp)
      refine ⟨k + 1, r, ?_⟩
      unfold corrieref17_Pairs.l1
      rw [if_neg (by omega), if_neg (by omega), if_pos b0, if_pos b1, if_pos (by omega), if_pos (by omega), if_pos (by omega)]
      exact h
  | d + 1, i, best, hd, hi, hb => by
    have hil : i < rest.length := by omega
    have e1 : wrap64 ((i : Int) + 1) = ((i + 1 : Nat) : Int) := by rw [wrap64_eq (by omega) (by omega)]; omega
    have step : ∀ best' : Int, (best' < 0 ∨ (0 ≤ best' ∧ best' < rest.length ∧ 0 < (rd_L5 rest best').length)) → ∃ k r, corrieref17_Pairs.l1 k lim out rest best' (wrap64 ((i : Int) + 1)) = some r := fun best' hb' => by
      rw [e1]
      exact pairs_in lim out rest hr ho IH d (i + 1) best' (by omega) (by omega) hb'
    have key : ∀ best' : Int, (best' < 0 ∨ (0 ≤ best' ∧ best' < rest.length ∧ 0 < (rd_L5 rest best').length)) → (∀ k, corrieref17_Pairs.l1 (k + 1) lim out rest best i = corrieref17_Pairs.l1 k lim out rest best' (wrap64 ((i : Int) + 1))) → ∃ k r, corrieref17_Pairs.l1 k lim out rest best i = some r := fun best' hb' he => by
      obtain ⟨k, r, h⟩ := step best' hb'
      exact ⟨k + 1, r, (he k).trans h⟩
    by_cases h1 : ((rd_L5 rest i).length : Int) > 0
    · have hnew : ((i : Int) < 0 ∨ (0 ≤ (i : Int) ∧ (i : Int) < rest.length ∧ 0 < (rd_L5 rest (i : Int)).length)) := .inr ⟨by omega, by omega, by omega⟩
      by_cases h2 : best < 0
      · exact key i hnew (fun k => by
          rw [corrieref17_Pairs.l1.eq_def]
          simp only
          rw [if_pos (by omega), if_pos (by omega), if_pos h1, if_pos h2])
      · obtain ⟨b0, b1, b2⟩ := hb.resolve_left h2
        by_cases h3 : ((rd_T129 (rd_L5 rest i) 0).f0) < ((rd_T129 (rd_L5 rest best) 0).f0)
        · exact key i hnew (fun k => by
            rw [corrieref17_Pairs.l1.eq_def]
            simp only
            rw [if_pos (by omega), if_pos (by omega), if_pos h1, if_neg h2, if_pos (by omega), if_pos b0, if_pos b1, if_pos (by omega), if_pos h3])
        · exact key best hb (fun k => by
            rw [corrieref17_Pairs.l1.eq_def]
            simp only
            rw [if_pos (by omega), if_pos (by omega), if_pos h1, if_neg h2, if_pos (by omega), if_pos b0, if_pos b1, if_pos (by omega), if_neg h3])
    · exact key best hb (fun k => by
        rw [corrieref17_Pairs.l1.eq_def]
        simp only
        rw [if_pos (by omega), if_pos (by omega), if_neg h1])
theorem pairs_out (lim : Int) : ∀ (s : Nat) (rest : List (List S129)) (out : List S129), rest.length ≤ 1000000 → out.length + s ≤ 1000000 → ln rest = s → ∃ k r, corrieref17_Pairs.l0 k lim out rest = some r
 | 0, rest, out, hr, ho, hs => by
  by_cases h : (out.length : Int) < lim
  ·obtain ⟨k, r, h1⟩ := pairs_in lim out rest hr (by omega) (fun out' rest' h => by omega) rest.length 0 (-1) (by omega) (by omega) (.inl (by omega))
   refine ⟨k + 1, r, ?_⟩
   unfold corrieref17_Pairs.l0
   rw [if_pos h]
   exact h1
  ·refine ⟨1, out, ?_⟩
   unfold corrieref17_Pairs.l0
   rw [if_neg h]
 | s + 1, rest, out, hr, ho, hs => by
  by_cases h : (out.length : Int) < lim
  ·obtain ⟨k, r, h1⟩ := pairs_in lim out rest hr (by omega) (fun out' rest' h1 h2 h3 => pairs_out lim s rest' out' (by omega) (by omega) (by omega)) rest.length 0 (-1) (by omega) (by omega) (.inl (by omega))
   refine ⟨k + 1, r, ?_⟩
   unfold corrieref17_Pairs.l0
   rw [if_pos h]
   exact h1
  ·refine ⟨1, out, ?_⟩
   unfold corrieref17_Pairs.l0
   rw [if_neg h]
theorem pairs_f (l : List (List S129)) (lim : Int) (hl : l.length ≤ 1000000) (hs : ln l ≤ 1000000) : ∃ k r, corrieref17_Pairs.f k l lim = some r := by
 obtain ⟨k, r, h⟩ := pairs_out lim (ln l) l [] hl (by simpa using hs) rfl
 refine ⟨k, r, ?_⟩
 unfold corrieref17_Pairs.f
 rw [Option.bind_some, if_pos (by simp; omega)]
 exact h
theorem reps_flat {α : Type} {enc : α → List Value} {size : Nat} {Rl : α → List Value → Prop} (hR : ∀ x c, Rl x c → c = enc x) (he : ∀ x, (enc x).length = size) : ∀ (ps : List α) (cs : List Value), Reps Rl size ps cs → cs = ps.flatMap enc
 | [], cs, h => List.eq_nil_of_length_eq_zero (by simpa using h.1)
 | x :: r, cs, h => by
  have h0 := hR _ _ (h.2 0 x rfl)
  rw [Nat.zero_mul, List.drop_zero] at h0
  have h1 := reps_flat hR he r (cs.drop size) ⟨by rw [List.length_drop, h.1, List.length_cons, Nat.succ_mul]; omega, fun j p hj => by
   have := h.2 (j + 1) p (by simpa using hj)
   rw [List.drop_drop]
   rw [Nat.succ_mul, Nat.add_comm] at this
   exact this⟩
  rw [List.flatMap_cons, ← h0, ← h1, List.take_append_drop]
theorem k_pair {W : World} {x : S129} {cs : List Value} (h : k129.K W x cs) : cs = prE x := by
 obtain ⟨c0, c1, rfl, h0, h1⟩ := h
 have e0 : c0 = [.int .u64 x.f0] := h0
 have e1 : c1 = [.int .u64 x.f1] := h1
 rw [e0, e1]
 rfl
theorem c17_Pairs (A : Option Addr) (C : Nat) (l : List PS) (lim : Int) (W : World) (hm : RowC W A (l.flatMap psE)) (hd : ∀ y, y ∈ l → PAt W y) (hs : l.length ≤ 1000000) (hc : l.length ≤ C) (hx : mx l ≤ 1000) : Calls Try.prog 59 #[.slice A l.length C, .int .i64 lim] W (fun e W' => ∃ pr : PS, e = .returned (.slice pr.a pr.ps.length pr.c) ∧ PAt W' pr ∧ (∀ k, rowBl pr.a k → W.heap.size ≤ k) ∧ Below W.heap.size W W') := by
 obtain ⟨k, r, h⟩ := pairs_f (l.map PS.ps) lim (by rw [List.length_map]; exact hs) (by rw [ln_map]; omega)
 have hV : Kd.V (Kd.slice 129 k129) 50 W W.heap.size (fun _ => True) (.slice A (l.map PS.ps).length C) (l.map PS.ps) :=
  ⟨A, C, rfl, by rw [List.length_map]; exact hc, fun W' hW => sc_C (hm.keep' (fun k hk => hW k trivial hk)) (fun y hy => ⟨(hd y hy).m.keep' (fun k hk => hW k trivial hk), (hd y hy).l, (hd y hy).n⟩) hs (by omega)⟩
 have h1 := corrieref17_Pairs.calls k (fun _ => True) A C (l.map PS.ps) lim r W hV h
 rw [List.length_map] at h1
 refine h1.mono ?_
 rintro e W' ⟨v, rfl, ⟨_, inner, ho, hr⟩, hb⟩
 have hi : inner = r.flatMap prE := reps_flat (enc := prE) (fun x c hx => k_pair (k129.K_of_M hx)) prE_len r inner hr
 rcases ho.2 with ⟨rfl, h0⟩ | ⟨g, cap, cur, rfl, hg, hh, hn, hmx, hsz, ht⟩
 ·obtain rfl := List.eq_nil_of_length_eq_zero h0
  exact ⟨PS.mk none 0 [], rfl, .nil, fun k hk => rowBl_none hk, hb⟩
 ·refine ⟨PS.mk (some ⟨g, 0, none⟩) cap r, rfl, ⟨?_, hn, Nat.le_trans hn hmx⟩, fun k hk => by rw [rowBl_blk hk]; exact hg, hb⟩
  have e : cur = (r.flatMap prE ++ cur.toList.drop (r.length * 2)).toArray := by
   apply Array.ext'
   have ht' : cur.toList.take (r.length * 2) = inner := ht
   rw [← hi, ← ht']
   exact (List.take_append_drop _ _).symm
  rw [e] at hh
  exact row_blk hh
def pRep (pr : PS) : PRep := ⟨fun W => PAt W pr, rowBl pr.a, fun W k h hk => by obtain ⟨ad, e, rfl⟩ := hk; exact (h.m.1 ad e).1, fun w w1 h hs hk => h.keep hs hk⟩
theorem pget {R : List PRep} {W : World} {pr : PS} (h : RepAt R W) (i : Nat) (hi : R[i]? = some (pRep pr)) : PAt W pr := h.get i hi
end Go.Proofs.Ytbhakljebcmocaa.PBoundKeeps
end
section
namespace Go.Proofs.Ytbhakljebcmocaa.PBoundKeeps
open Go.RowKit Go.Proofs.YtbhakljebcmocaaW.PrintWords Go.Proofs.YtbhakljebcmocaaW.PrintLast Go.Proofs.YtbhakljebcmocaaW.PrintMore
set_option linter.unusedVariables false
set_option linter.unusedSimpArgs false
structure TR where
 prog : List S48
 next : Int
 whom : Int
 going : Int
 call : CallR
 scan : ScR
 event : Int
structure TX where
 pa : Option Addr
 pc : Nat
 sx : SX
structure TH where
 t : TR
 x : TX
structure EA where
 thread : Int
 index : Int
 begin_ : Int
 end_ : Int
 steps : Int
 call : S48
 err : Int
 done : Bool
 val : Int
structure EV where
 e : EA
 pr : PS
structure AD where
 w : RW
 ts : List TR
 es : List EA
 time : Int
structure DX where
 x : RX
 A : Option Addr
 C : Nat
 l : List TH
 eA : Option Addr
 eC : Nat
 es : List EV
def encT (t : TR) (x : TX) : List Value := [.slice x.pa t.prog.length x.pc, .int .i64 t.next, .int .i64 t.whom, .int .i64 t.going] ++ (encCallR t.call ++ (encSc t.scan x.sx ++ [.int .i64 t.event]))
def thE (y : TH) : List Value := encT y.t y.x
theorem thE_len (y : TH) : (thE y).length = 143 := by kernel_rfl
theorem thE_one (y : TH) : (thE y).all (fun u => u.oneCell') = true := by kernel_rfl
def encE (e : EA) (p : PS) : List Value := [.int .i64 e.thread, .int .i64 e.index, .int .i64 e.begin_, .int .i64 e.end_, .int .i64 e.steps, .int .i64 e.call.f0, .int .u64 e.call.f1, .int .u64 e.call.f2, .int .i64 e.call.f3, .int .i64 e.err, .bool e.done, .int .u64 e.val, .slice p.a p.ps.length p.c]
def evE (y : EV) : List Value := encE y.e y.pr
theorem evE_len (y : EV) : (evE y).length = 13 := rfl
theorem evE_one (y : EV) : (evE y).all (fun u => u.oneCell') = true := rfl
theorem encCall_len (x : S48) : (encCall x).length = 4 := rfl
def encD (d : AD) (r : DX) : List Value := encW d.w r.x ++ [.slice r.A r.l.length r.C, .slice r.eA r.es.length r.eC, .int .i64 d.time]
def zCall : S48 := ⟨0, 0, 0, 0⟩
def zSc : ScR := ⟨zCall, 0, 0, 0, 0, false, 0, false, 0⟩
def zSX : SX := ⟨none, 0, [], PS.mk none 0 []⟩
def zTR : TR := ⟨[], 0, 0, 0, zCallR, zSc, 0⟩
def zTX : TX := ⟨none, 0, zSX⟩
def zTH : TH := ⟨zTR, zTX⟩
def zEA : EA := ⟨0, 0, 0, 0, 0, zCall, 0, false, 0⟩
def zEV : EV := ⟨zEA, PS.mk none 0 []⟩
structure TAt (W : World) (t : TR) (x : TX) : Prop where
 m : t.prog ≠ [] → RowC W x.pa (t.prog.flatMap encCall)
 l : t.prog.length ≤ x.pc
 n : t.prog.length ≤ 1000000
 s : SAt W t.scan x.sx
theorem ne_of {α : Type} {l : List α} (h : 0 < l.length) : l ≠ [] := fun e => by rw [e] at h; exact absurd h (Nat.lt_irrefl 0)
def tBl (t : TR) (x : TX) (k : Nat) : Prop := (t.prog ≠ [] ∧ rowBl x.pa k) ∨ sBl x.sx k
theorem SAt.keep {w w1 : World} {x : ScR} {q : SX} (h : SAt w x q) (hs : w.heap.size ≤ w1.heap.size) (hk : ∀ k, sBl q k → k < w.heap.size → w1.heap[k]? = w.heap[k]?) : SAt w1 x q := (sRep x q).keep w w1 h hs hk
theorem SAt.lt {w : World} {x : ScR} {q : SX} (h : SAt w x q) (k : Nat) (hk : sBl q k) : k < w.heap.size := (sRep x q).lt w k h hk
theorem SAt.z {W : World} : SAt W zSc zSX := ⟨row_nil, Nat.le_refl _, Nat.zero_le _, fun y hy => (by cases hy), .nil⟩
theorem TAt.keep {w w1 : World} {t : TR} {x : TX} (h : TAt w t x) (hs : w.heap.size ≤ w1.heap.size) (hk : ∀ k, tBl t x k → k < w.heap.size → w1.heap[k]? = w.heap[k]?) : TAt w1 t x := ⟨fun hn => (h.m hn).keep hs (fun k q => hk k (.inl ⟨hn, q⟩)), h.l, h.n, h.s.keep hs (fun k q => hk k (.inr q))⟩
theorem TAt.lt {w : World} {t : TR} {x : TX} (h : TAt w t x) (k : Nat) (hk : tBl t x k) : k < w.heap.size := by
 rcases hk with ⟨hn, ad, e, rfl⟩ | hk
 ·exact ((h.m hn).1 ad e).1
 ·exact h.s.lt k hk
theorem TAt.z {W : World} : TAt W zTR zTX := ⟨fun _ => row_nil, Nat.le_refl _, Nat.zero_le _, .z⟩
def tRep (t : TR) (x : TX) : PRep := ⟨fun W => TAt W t x, tBl t x, fun W k h hk => h.lt k hk, fun w w1 h hs hk => h.keep hs hk⟩
theorem tget {R : List PRep} {W : World} {t : TR} {x : TX} (h : RepAt R W) (i : Nat) (hi : R[i]? = some (tRep t x)) : TAt W t x := h.get i hi
structure DAt (W : World) (d : AD) (r : DX) : Prop where
 w : WAt W d.w r.x
 m : RowC W r.A (r.l.flatMap thE)
 l : r.l.length ≤ r.C
 n : r.l.length ≤ 1000000
 dd : ∀ y, y ∈ r.l → TAt W y.t y.x
 me : RowC W r.eA (r.es.flatMap evE)
 le : r.es.length ≤ r.eC
 ne : r.es.length ≤ 1000000
 de : ∀ y, y ∈ r.es → PAt W y.pr
 tm : r.l.map TH.t = d.ts
 em : r.es.map EV.e = d.es
def tDeep (l : List TH) (k : Nat) : Prop := ∃ y, y ∈ l ∧ tBl y.t y.x k
def eDeep (l : List EV) (k : Nat) : Prop := ∃ y, y ∈ l ∧ rowBl y.pr.a k
def dBl (r : DX) (k : Nat) : Prop := wBl r.x k ∨ rowBl r.A k ∨ tDeep r.l k ∨ rowBl r.eA k ∨ eDeep r.es k
def dRep (d : AD) (r : DX) : PRep := ⟨fun W => DAt W d r, dBl r, fun W k h hk => by
    rcases hk with hk | ⟨ad, e, rfl⟩ | ⟨y, hy, hk⟩ | ⟨ad, e, rfl⟩ | ⟨y, hy, ad, e, rfl⟩
    · exact (wRep d.w r.x).lt W k h.w hk
    · exact (h.m.1 ad e).1
    · exact (h.dd y hy).lt k hk
    · exact (h.me.1 ad e).1
    · exact ((h.de y hy).m.1 ad e).1,
  fun w w1 h hs hk => ⟨(wRep d.w r.x).keep w w1 h.w hs (fun k q => hk k (.inl q)), h.m.keep hs (fun k q => hk k (.inr (.inl q))), h.l, h.n, fun y hy => (h.dd y hy).keep hs (fun k q => hk k (.inr (.inr (.inl ⟨y, hy, q⟩)))), h.me.keep hs (fun k q => hk k (.inr (.inr (.inr (.inl q))))), h.le, h.ne, fun y hy => (h.de y hy).keep hs (fun k q => hk k (.inr (.inr (.inr (.inr ⟨y, hy, q⟩))))), h.tm, h.em⟩⟩
theorem dget {R : List PRep} {W : World} {d : AD} {r : DX} (h : RepAt R W) (i : Nat) (hi : R[i]? = some (dRep d r)) : DAt W d r := h.get i hi
theorem DAt.tg {W : World} {d : AD} {r : DX} (h : DAt W d r) (i : Nat) : TAt W (r.l.getD i zTH).t (r.l.getD i zTH).x := by
 rcases getD_mem r.l i zTH with e | e
 ·exact h.dd _ e
 ·rw [e]; exact .z
theorem tDeep_get {l : List TH} {i k : Nat} (h : tBl (l.getD i zTH).t (l.getD i zTH).x k) : tDeep l k := by
 rcases getD_mem l i zTH with e | e
 ·exact ⟨_, e, h⟩
 ·rw [e] at h
  rcases h with h | h | ⟨y, hy, _⟩ | h
  ·exact absurd rfl h.1
  ·exact rowBl_none h
  ·cases hy
  ·exact rowBl_none h
theorem getD_mapL {α β : Type} (f : α → β) : ∀ (l : List α) (i : Nat) (z : α), f (l.getD i z) = (l.map f).getD i (f z)
 | [], i, z => by simp
 | x :: r, 0, z => rfl
 | x :: r, i + 1, z => by show f (r.getD i z) = _; rw [getD_mapL f r i z]; rfl
theorem DAt.tt {W : World} {d : AD} {r : DX} (h : DAt W d r) (i : Nat) : (r.l.getD i zTH).t = d.ts.getD i zTR := by rw [getD_mapL TH.t, h.tm]; rfl
theorem tdeep_set {W : World} {l : List TH} {i : Nat} {t : TR} {x : TX} (h : ∀ y, y ∈ l → TAt W y.t y.x) (hz : TAt W t x) : ∀ y, y ∈ l.set i (TH.mk t x) → TAt W y.t y.x := fun y hy => by
 rcases List.mem_or_eq_of_mem_set hy with h1 | rfl
 ·exact h y h1
 ·exact hz
theorem tDeep_set {l : List TH} {i k : Nat} {t : TR} {x : TX} {p : Prop} (h : tDeep (l.set i (TH.mk t x)) k) (h1 : tDeep l k → p) (h2 : tBl t x k → p) : p := by
 obtain ⟨y, hy, hk⟩ := h
 rcases List.mem_or_eq_of_mem_set hy with h3 | rfl
 ·exact h1 ⟨y, h3, hk⟩
 ·exact h2 hk
theorem edeep_app {W : World} {l : List EV} {e : EA} {p : PS} (h : ∀ y, y ∈ l → PAt W y.pr) (hz : PAt W p) : ∀ y, y ∈ l ++ [EV.mk e p] → PAt W y.pr := fun y hy => by
 rcases List.mem_append.mp hy with h1 | h1
 ·exact h y h1
 ·obtain rfl := List.mem_singleton.mp h1; exact hz
theorem eDeep_app {l : List EV} {k : Nat} {e : EA} {q : PS} {p : Prop} (h : eDeep (l ++ [EV.mk e q]) k) (h1 : eDeep l k → p) (h2 : rowBl q.a k → p) : p := by
 obtain ⟨y, hy, hk⟩ := h
 rcases List.mem_append.mp hy with h3 | h3
 ·exact h1 ⟨y, h3, hk⟩
 ·obtain rfl := List.mem_singleton.mp h3; exact h2 hk
theorem edeep_set {W : World} {l : List EV} {i : Nat} {e : EA} {p : PS} (h : ∀ y, y ∈ l → PAt W y.pr) (hz : PAt W p) : ∀ y, y ∈ l.set i (EV.mk e p) → PAt W y.pr := fun y hy => by
 rcases List.mem_or_eq_of_mem_set hy with h1 | rfl
 ·exact h y h1
 ·exact hz
theorem eDeep_set {l : List EV} {i k : Nat} {e : EA} {q : PS} {p : Prop} (h : eDeep (l.set i (EV.mk e q)) k) (h1 : eDeep l k → p) (h2 : rowBl q.a k → p) : p := by
 obtain ⟨y, hy, hk⟩ := h
 rcases List.mem_or_eq_of_mem_set hy with h3 | rfl
 ·exact h1 ⟨y, h3, hk⟩
 ·exact h2 hk
theorem DAt.tl {W : World} {d : AD} {r : DX} (h : DAt W d r) : r.l.length = d.ts.length := by rw [← h.tm, List.length_map]
theorem DAt.ell {W : World} {d : AD} {r : DX} (h : DAt W d r) : r.es.length = d.es.length := by rw [← h.em, List.length_map]
def MXle (l : List TH) (K : Nat) : Prop := ∀ y, y ∈ l → mx y.x.sx.l ≤ K
theorem MXle.get {l : List TH} {K : Nat} (h : MXle l K) (i : Nat) : mx (l.getD i zTH).x.sx.l ≤ K := by
 rcases getD_mem l i zTH with e | e
 ·exact h _ e
 ·rw [e]; exact Nat.zero_le _
theorem MXle.set {l : List TH} {K : Nat} (h : MXle l K) {i : Nat} {t : TR} {x : TX} (hx : mx x.sx.l ≤ K) : MXle (l.set i (TH.mk t x)) K := fun y hy => by
 rcases List.mem_or_eq_of_mem_set hy with h1 | rfl
 ·exact h y h1
 ·exact hx
theorem MXle.mono {l : List TH} {K M : Nat} (h : MXle l K) (hK : K ≤ M) : MXle l M := fun y hy => Nat.le_trans (h y hy) hK
theorem beq_ne {a b : Int} (h : (a == b) = false) : a ≠ b := by simpa using h
theorem eDeep_get {l : List EV} {i k : Nat} (h : rowBl (l.getD i zEV).pr.a k) : eDeep l k := by
 rcases getD_mem l i zEV with e | e
 ·exact ⟨_, e, h⟩
 ·rw [e] at h; exact rowBl_none h
end Go.Proofs.Ytbhakljebcmocaa.PBoundKeeps
end
section
namespace Go.Proofs.Ytbhakljebcmocaa.PBoundKeeps
open Go.RowKit Go.Proofs.YtbhakljebcmocaaW.PrintWords Go.Proofs.YtbhakljebcmocaaW.PrintLast Go.Proofs.YtbhakljebcmocaaW.PrintMore
set_option linter.unusedVariables false
set_option linter.unusedSimpArgs false
theorem nm {α : Type} (a : α) : ∃ b, a = b ∧ a = b := ⟨a, rfl, rfl⟩
section
variable {W0 : World} {F : Fr} {kn : List Nat} {R : List PRep} {S : Md × St → St} {m : Md × St → Md} {fn : Func} {Rp : Ending → World → Prop} {Q : Exit → Act → World → Prop} {y' : Md × St}
theorem rX {S : St} {m : Md} (n : Nat) (h : ∀ x, x = runN Try.prog tE n (m, S) → Go Try.prog (bodyPost Try.prog fn Rp) W0 F kn R x.2 x.1) : Go Try.prog (bodyPost Try.prog fn Rp) W0 F kn R S m := rf_run' body_PQ te_ok n h
theorem rZ (n : Nat) (h : ∀ x, x = runN Try.prog tE n (m y', S y') → Go Try.prog (bodyPost Try.prog fn Rp) W0 F kn R x.2 x.1) : ∀ y, y = y' → Go Try.prog (bodyPost Try.prog fn Rp) W0 F kn R (S y) (m y) := by rintro y rfl; exact rf_run' body_PQ te_ok n h
theorem rO (ord : List Nat) (h : ∀ y, y = y' → Go Try.prog Q W0 F kn R (S y) (setOrd ord (m y))) : ∀ y, y = y' → Go Try.prog Q W0 F kn R (S y) (m y) := fun y e => rf_ord ord (h y e)
theorem rK {p : Prop} (h : ∀ W, RepAt R W → p) (hG : p → ∀ y, y = y' → Go Try.prog Q W0 F kn R (S y) (m y)) : ∀ y, y = y' → Go Try.prog Q W0 F kn R (S y) (m y) := fun y e => rf_know h (fun q => hG q y e)
theorem rG (keep : List Nat) (hG : ∀ tv : Nat → Value, ∀ y, y = y' → Go Try.prog Q W0 F kn R ⟨(S y).L, fgtT tv keep 0 (S y).T⟩ (m y)) : ∀ y, y = y' → Go Try.prog Q W0 F kn R (S y) (m y) := fun y e => rf_forget keep (fun tv => hG tv y e)
theorem qR (vs : List Value) (hP : ∀ W, Tch F.w W0 W → RepAt R W → (∀ r, r ∈ R → ∀ k, r.bl k → W0.heap.size ≤ k ∨ F.g k) → Rp (.returned (tup vs)) W) (hm : isEnd (m y') = true := by kernel_rfl) (h : resAll tE (S y') fn.results.toList = some (vs.map .v) := by kernel_rfl) : ∀ y, y = y' → Go Try.prog (bodyPost Try.prog fn Rp) W0 F kn R (S y) (m y) := by rintro y rfl; exact rf_ret te_ok vs hm h hP
theorem qD (T : Bool × List (List Nat × List Nat)) (B ds ld ord : List Nat) (h : ∀ y, y = y' → Go Try.prog Q W0 F kn R (S y) (drawOf (S y) R T B ds ld ord (m y))) (hm : (Try.prog).follows .mixedOrders = true := by kernel_rfl) (hT : rtabOf (m y') = some T := by kernel_rfl) (hB : waitsOk T.2 B = true := by kernel_rfl) (hld : ld.all (fun j => j.blt (S y').L.length) = true := by kernel_rfl) : ∀ y, y = y' → Go Try.prog Q W0 F kn R (S y) (m y) := by rintro y rfl; exact rf_draw hm T B ds ld ord hT hB hld (h _ rfl)
noncomputable def callsOk (f : FuncId) : Bool := match (Try.prog).funcs[f]? with
 | some fn => !(fn.name == "runtime.NumGoroutine") && fn.body.isSome
 | none => false
theorem qC {f : FuncId} (args : List Value)
    (hC : ∀ W, Tch F.w W0 W → RepAt R W → Calls Try.prog f args.toArray W (fun e W' => ∃ (v : Value) (N : List PRep), e = .returned v ∧ Below W.heap.size W W' ∧ NewOk R W W' N ∧ ∀ y, y = y' → Go Try.prog Q W0 F kn (N ++ R) ((S y).put (dstOf (m y)) (.v v)) (after (m y)))) (h : callOf (S y') (m y') = some (f, args.map .v) := by kernel_rfl) (hf : callsOk f = true := by kernel_rfl) : ∀ y, y = y' → Go Try.prog Q W0 F kn R (S y) (m y) := by
  rintro y rfl
  unfold callsOk at hf
  cases h1 : (Try.prog).funcs[f]? with
  | none => rw [h1] at hf; cases hf
  | some fn =>
    rw [h1] at hf
    have hf' : (!(fn.name == "runtime.NumGoroutine") && fn.body.isSome) = true := hf
    rw [Bool.and_eq_true, Bool.not_eq_true'] at hf'
    refine rf_call args h h1 hf'.1 hf'.2 (fun W hT hR => (hC W hT hR).mono ?_)
    rintro e W1 ⟨v, N, h1, h2, h3, h4⟩
    exact ⟨v, N, h1, h2, h3, h4 _ rfl⟩
theorem qV {f : FuncId} {v : Value} (args : List Value)
    (hC : ∀ W, Tch F.w W0 W → RepAt R W → Calls Try.prog f args.toArray W (fun e W' => e = .returned v ∧ Below W.heap.size W W')) (hG : ∀ y, y = y' → Go Try.prog Q W0 F kn R ((S y).put (dstOf (m y)) (.v v)) (after (m y))) (h : callOf (S y') (m y') = some (f, args.map .v) := by kernel_rfl) (hf : callsOk f = true := by kernel_rfl) : ∀ y, y = y' → Go Try.prog Q W0 F kn R (S y) (m y) :=
  qC args (fun W hT hR => (hC W hT hR).mono (by rintro e W1 ⟨rfl, hb⟩; exact ⟨_, [], rfl, hb, NewOk.nil, hG⟩)) h hf
theorem qI (b : Bool) (ht : b = true → ∀ y, y = y' → Go Try.prog Q W0 F kn R (S y) (branch true (m y))) (hf : b = false → ∀ y, y = y' → Go Try.prog Q W0 F kn R (S y) (branch false (m y))) (h : condOf (S y') (m y') = some b := by kernel_rfl) : ∀ y, y = y' → Go Try.prog Q W0 F kn R (S y) (m y) := by rintro y rfl; exact rf_if h (fun q => ht q _ rfl) (fun q => hf q _ rfl)
theorem qS (d : Nat) (t : Bool) (ht : t = true → ∀ y, y = y' → Go Try.prog Q W0 F kn R ((S y).put (some d) (.v (.bool true))) (m y)) (hf : t = false → ∀ y, y = y' → Go Try.prog Q W0 F kn R ((S y).put (some d) (.v (.bool false))) (m y)) (h : (S y').T[d]? = some (.v (.bool t)) := by kernel_rfl) : ∀ y, y = y' → Go Try.prog Q W0 F kn R (S y) (m y) := by rintro y rfl; exact rf_case d h (fun q => ht q _ rfl) (fun q => hf q _ rfl)
theorem qJ {ι : Type} (Sf : ι → St) (Rf : ι → List PRep) (I : ι → Prop) (x : ι) (hx : I x) (hR : ∀ r, r ∈ Rf x → r ∈ R) (hm : lOf (m y') = some (JnAt W0 F kn Sf Rf I) := by kernel_rfl) (hS : S y' = Sf x := by kernel_rfl) : ∀ y, y = y' → Go Try.prog Q W0 F kn R (S y) (m y) := by rintro y rfl; exact rf_join x hm hx hS hR
theorem qG (i : Nat) (ks : List Nat) (t : Nat) (vs : List Value) (hG : ∀ g, ∀ y, y = y' → Go Try.prog Q W0 F kn (blkRep g t vs :: R) (give (S y) i g ks) (m y)) (hF : ∀ k, F.w k → F.g k := by exact fun _ h => False.elim h) (hm : ∀ g, (ldD (m y')).map (getB (give (S y') i g ks).L) = (ldD (m y')).map (getB (S y').L) := by intro g; kernel_rfl) (hb : getB (S y').L i = some ⟨true, t, vs.map .v⟩ := by kernel_rfl) : ∀ y, y = y' → Go Try.prog Q W0 F kn R (S y) (m y) := by rintro y rfl; exact rf_give hF i ks vs hm hb rfl (fun g => hG g _ rfl)
theorem qF (i j : Nat) (h1 : ∀ y, y = y' → Go Try.prog Q W0 F kn R (S y) (selTo i [] (m y))) (h2 : ∀ y, y = y' → Go Try.prog Q W0 F kn R (S y) (selTo j [] (m y))) (hr : readyOf (m y') = [i, j] := by kernel_rfl) : ∀ y, y = y' → Go Try.prog Q W0 F kn R (S y) (m y) := by rintro y rfl; exact rf_fork2 i j hr (h1 _ rfl) (h2 _ rfl)
theorem qE (i j k : Nat) (h1 : ∀ y, y = y' → Go Try.prog Q W0 F kn R (S y) (selTo i [] (m y))) (h2 : ∀ y, y = y' → Go Try.prog Q W0 F kn R (S y) (selTo j [] (m y))) (h3 : ∀ y, y = y' → Go Try.prog Q W0 F kn R (S y) (selTo k [] (m y))) (hr : readyOf (m y') = [i, j, k] := by kernel_rfl) : ∀ y, y = y' → Go Try.prog Q W0 F kn R (S y) (m y) := by rintro y rfl; exact rf_fork3 i j k hr (h1 _ rfl) (h2 _ rfl) (h3 _ rfl)
theorem qP (d : Nat) {s : SV} (s' : SV) (he : s = s') (hG : ∀ y, y = y' → Go Try.prog Q W0 F kn R ⟨(S y).L, (S y).T.set d s'⟩ (m y)) (h : (S y').T[d]? = some s := by kernel_rfl) : ∀ y, y = y' → Go Try.prog Q W0 F kn R (S y) (m y) := by rintro y rfl; exact rf_slot d s' h he (hG _ rfl)
theorem qK {ι : Type} (Sf : ι → St) (Rf : ι → List PRep) (I : ι → Prop) (h1 : ∀ y, y = y' → Go Try.prog Q W0 F kn R (S y) (cutOf (JnAt W0 F kn Sf Rf I) (m y))) (h2 : ∀ x, I x → ∀ y, y = y' → Go Try.prog Q W0 F kn (Rf x) (Sf x) (restOf (m y))) (hm : cutOk (m y') = true := by kernel_rfl) : ∀ y, y = y' → Go Try.prog Q W0 F kn R (S y) (m y) := by rintro y rfl; exact rf_cut Sf Rf I hm (h1 _ rfl) (fun x hx => h2 x hx _ rfl)
theorem qL {t : Nat} {p v : Value} (R0 : List PRep) (hv : ∀ w, RepAt R0 w → (Instr.loadAt t p).run Try.prog w = .ok v w) (hG : ∀ y, y = y' → Go Try.prog (bodyPost Try.prog fn Rp) W0 F kn R ((S y).put (dstV (S y) (m y)) (.v v)) (afterV (m y))) (h : shp (S y') (m y') = some (.ld t (.v p)) := by kernel_rfl) (hok : okTk (m y') = true := by kernel_rfl) (hR0 : r0Of R (m y') = R0 := by kernel_rfl) : ∀ y, y = y' → Go Try.prog (bodyPost Try.prog fn Rp) W0 F kn R (S y) (m y) := by rintro y rfl; exact rf_ldF body_PQ R0 h hok hR0 hv (hG _ rfl)
theorem qX {t e s b : Nat} {A : Option Addr} (a : Addr) {n c : Nat} {k : IntKind} {i : Int} (hA : A = some a) (h0 : 0 ≤ i) (h1 : i < n) (hG : ∀ y, y = y' → Go Try.prog (bodyPost Try.prog fn Rp) W0 F kn R ((S y).put (dstV (S y) (m y)) (.v (.pointer (some (a.add (i.toNat * s)))))) (afterV (m y))) (h : shp (S y') (m y') = some (.ix t (.v (.slice A n c)) (.v (.int k i))) := by kernel_rfl) (hok : okY (m y') = true := by kernel_rfl) (hel : tE.el.lookup t = some (e, s, b) := by rfl) : ∀ y, y = y' → Go Try.prog (bodyPost Try.prog fn Rp) W0 F kn R (S y) (m y) := by rintro y rfl; exact rf_ixF body_PQ te_ok a h hok hel hA h0 h1 (hG _ rfl)
theorem qY {t e s b : Nat} {j n c : Nat} {k : IntKind} {i : Int} (h0 : 0 ≤ i) (h1 : i < n) (hG : ∀ y, y = y' → Go Try.prog (bodyPost Try.prog fn Rp) W0 F kn R ((S y).put (dstV (S y) (m y)) (.ad j (i.toNat * s))) (afterV (m y))) (h : shp (S y') (m y') = some (.ix t (.sl j n c) (.v (.int k i))) := by kernel_rfl) (hok : okY (m y') = true := by kernel_rfl) (hj : Nat.ble (j + 1) (S y').L.length = true := by kernel_rfl) (hel : tE.el.lookup t = some (e, s, b) := by rfl) : ∀ y, y = y' → Go Try.prog (bodyPost Try.prog fn Rp) W0 F kn R (S y) (m y) := by rintro y rfl; exact rf_ixO body_PQ te_ok h hok (Nat.le_of_ble_eq_true hj) hel h0 h1 (hG _ rfl)
theorem qO {t k j of : Nat} {b : SB} (s : SV) (hs : b.cs[of]? = some s) (hso : s.ok (S y').L.length) (hG : ∀ y, y = y' → Go Try.prog (bodyPost Try.prog fn Rp) W0 F kn R ((S y).put (dstV (S y) (m y)) s) (afterV (m y))) (h : shp (S y') (m y') = some (.ld t (.ad j of)) := by kernel_rfl) (hok : okTk (m y') = true := by kernel_rfl) (hld : ldIn (m y') j = true := by kernel_rfl) (hb : getB (S y').L j = some b := by kernel_rfl) (hsz : tE.sz.lookup t = some (false, k) := by rfl) : ∀ y, y = y' → Go Try.prog (bodyPost Try.prog fn Rp) W0 F kn R (S y) (m y) := by rintro y rfl; exact rf_ldO1 body_PQ te_ok s h hok hld hb hsz hs hso (hG _ rfl)
theorem qA {α : Type} {enc : α → List Value} (cl' : Bool) {t e size by_ i n c : Nat} {x : SV} (l l2 l3 : List α) {sp : List Value} (hlen : ∀ x, (enc x).length = size) (h1 : ∀ x, (enc x).all (fun u => u.oneCell') = true)
    (hn : l.length = n) (hall : (l.flatMap enc ++ sp).length = c * size) (hnc : n ≤ c) (hc : c ≤ maxLen) (hmm : l.length + l2.length ≤ 1000000) (h3 : l ++ l2 = l3)
    (hx : ∀ γ W, Known kn γ → Bq W0 F γ (S y').L R W → NewsAt γ l2.length x (l2.flatMap enc) W)
    (hG : ∀ c' sp', (l3.flatMap enc ++ sp').length = c' * size → l3.length ≤ c' → c' ≤ maxLen → ∀ y, y = y' → Go Try.prog Q W0 F kn R ⟨(S y).L.set i none ++ [some ⟨true, e, (l3.flatMap enc ++ sp').map .v⟩], putT (S y).T (dstV (S y) (m y)) (.sl (S y).L.length l3.length c')⟩ (setCl cl' (afterV (m y))))
    (h : shp (S y') (m y') = some (.ap t (.sl i n c) x) := by kernel_rfl) (hok : okS cl' (m y') = true := by kernel_rfl) (hel : tE.el.lookup t = some (e, size, by_) := by rfl) (hb : getB (S y').L i = some ⟨true, e, (l.flatMap enc ++ sp).map .v⟩ := by kernel_rfl) (hby : by_ ≤ 1000000 := by decide) (hld : cl' = true → (ldOf (m y')).elem i = false := by intro _; kernel_rfl) : ∀ y, y = y' → Go Try.prog Q W0 F kn R (S y) (m y) := by rintro y rfl; exact rf_apL te_ok cl' l l2 l3 hlen h1 h hok hel hb hn hall hnc hc hmm hby h3 hx (fun h => ld_of (hld h)) (fun c s a1 a2 a3 => hG c s a1 a2 a3 _ rfl)
theorem qM {α : Type} {enc : α → List Value} (cl' : Bool) {t e size by_ : Nat} {k k' : IntKind} {n : Int} (d : α) (zs : List Value) (h0 : 0 ≤ n) (h1 : n ≤ 1000000)
    (hG : ∀ y, y = y' → Go Try.prog Q W0 F kn R ⟨(S y).L ++ [some ⟨true, e, ((List.replicate n.toNat d).flatMap enc ++ []).map .v⟩], putT (S y).T (dstV (S y) (m y)) (.sl (S y).L.length (List.replicate n.toNat d).length n.toNat)⟩ (setCl cl' (afterV (m y)))) (hz : enc d = zs := by rfl) (h : shp (S y') (m y') = some (.mk t (.v (.int k n)) (.v (.int k' n))) := by kernel_rfl) (hok : okS cl' (m y') = true := by kernel_rfl) (hel : tE.el.lookup t = some (e, size, by_) := by rfl) (hzc : tE.zc.lookup e = some zs := by rfl) (hby : by_ ≤ 1000000 := by decide) : ∀ y, y = y' → Go Try.prog Q W0 F kn R (S y) (m y) := by rintro y rfl; exact rf_mkL te_ok cl' d zs hz h hok hel hzc h0 h1 hby (hG _ rfl)
theorem qW (cl' : Bool) {t k j of e : Nat} {ag : Bool} {x : SV} {cs : List SV} (cs' : List SV) (hin : of + k ≤ cs.length) (hcs : lput cs of (cellsOf x) = cs')
    (hG : ∀ y, y = y' → Go Try.prog Q W0 F kn R ⟨(S y).L.set j (some ⟨true, e, cs'⟩), (S y).T⟩ (setCl cl' (afterV (m y)))) (h : shp (S y') (m y') = some (.st t (.ad j of) x) := by kernel_rfl) (hok : okS cl' (m y') = true := by kernel_rfl) (hsz : tE.sz.lookup t = some (ag, k) := by rfl) (hb : getB (S y').L j = some ⟨true, e, cs⟩ := by kernel_rfl) (hl : (cellsOf x).length = k := by kernel_rfl) (h1 : (cellsOf x).all one1 = true := by kernel_rfl) (hld : cl' = true → (ldOf (m y')).elem j = false := by intro _; kernel_rfl) : ∀ y, y = y' → Go Try.prog Q W0 F kn R (S y) (m y) := by rintro y rfl; exact rf_stO te_ok cl' cs' h hok hsz hb hl h1 hin hcs (fun h => ld_of (hld h)) (hG _ rfl)
theorem qN (f : List Nat) (S' : St) (hm : plainM (m y') = true) (hkn : kn = []) (hf : injb f = true) (hn : S'.L.length = f.length) (hT : S'.T.map (renS f) = (S y').T) (hTo : S'.T.all (okb f.length) = true) (hL : RenL f f.length (S y').L 0 S'.L) (hG : ∀ y, y = y' → Go Try.prog Q W0 F kn R S' (m y)) : ∀ y, y = y' → Go Try.prog Q W0 F kn R (S y) (m y) := by rintro y rfl; exact rf_ren f S' hm hkn hf hn hT hTo hL (hG _ rfl)
theorem qQ {ι : Type} {Sf : ι → St} {Rf : ι → List PRep} {I : ι → Prop} {μ : ι → Nat} {n : Nat} (x : ι) (hm : lOf (m y') = some (LpAt W0 F kn Sf Rf I μ n)) (hx : I x ∧ μ x < n) (hS : S y' = Sf x) (hR : ∀ r, r ∈ Rf x → r ∈ R) : ∀ y, y = y' → Go Try.prog Q W0 F kn R (S y) (m y) := by rintro y rfl; exact rf_again x hm hx hS hR
theorem qU {ι : Type} (Sf : ι → St) (Rf : ι → List PRep) (I : ι → Prop) (μ : ι → Nat) (hm : isLoop (m y') = true) (x0 : ι) (h0 : I x0) (hS : S y' = Sf x0) (hR : ∀ r, r ∈ Rf x0 → r ∈ R)
    (h : ∀ x, I x → ∀ y, y = y' → Go Try.prog Q W0 F kn (Rf x) (Sf x) (loopOf (LpAt W0 F kn Sf Rf I μ (μ x)) (m y))) : ∀ y, y = y' → Go Try.prog Q W0 F kn R (S y) (m y) := by rintro y rfl; exact rf_loop Sf Rf I μ hm x0 h0 hS hR (fun x hx => h x hx _ rfl)
theorem rH (r : PRep) (h1 : ∀ W, RepAt R W → r.At W) (h2 : ∀ k, r.bl k → ∃ q, q ∈ R ∧ q.bl k) (hG : ∀ y, y = y' → Go Try.prog Q W0 F kn (r :: R) (S y) (m y)) : ∀ y, y = y' → Go Try.prog Q W0 F kn R (S y) (m y) := fun y e => rf_der r h1 h2 (hG y e)
end
end Go.Proofs.Ytbhakljebcmocaa.PBoundKeeps
end
section
namespace Go.Proofs.Ytbhakljebcmocaa.PBoundKeeps
open Go.RowKit Go.Proofs.YtbhakljebcmocaaW.PrintWords Go.Proofs.YtbhakljebcmocaaW.PrintLast Go.Proofs.YtbhakljebcmocaaW.PrintMore
set_option linter.unusedVariables false
set_option maxHeartbeats 1000000
set_option maxRecDepth 100000
set_option linter.unusedSimpArgs false
def k04_May.j1.c (c : S23) (x_ : Bool × (Nat → Value)) : St := match x_ with | ⟨q, tv_⟩ => ⟨[some ⟨true, 23, (encC c).map .v⟩], tvl tv_ 45 [(1, .ad 0 0), (2, .v (.int .i64 0)), (16, .v (.bool q))]⟩
def k04_May.j1.r (c : S23) (x_ : Bool × (Nat → Value)) : List PRep := match x_ with | ⟨q, tv_⟩ => []
def k04_May.j1.i (c : S23) (x_ : Bool × (Nat → Value)) : Prop := match x_ with | ⟨q, tv_⟩ => q = (mayA c)
def k04_May.j2.c (c : S23) (tv3_ : Nat → Value) (x_ : Bool × (Nat → Value)) : St := match x_ with | ⟨q, tv_⟩ => ⟨[some ⟨true, 23, (encC c).map .v⟩], tvl tv_ 45 [(1, .ad 0 0), (2, .v (.int .i64 0)), (44, .v (.bool q))]⟩
def k04_May.j2.r (c : S23) (tv3_ : Nat → Value) (x_ : Bool × (Nat → Value)) : List PRep := match x_ with | ⟨q, tv_⟩ => []
def k04_May.j2.i (c : S23) (tv3_ : Nat → Value) (x_ : Bool × (Nat → Value)) : Prop := match x_ with | ⟨q, tv_⟩ => q = (mayB c)
def m04May (c : S23) : Int := (bif (mayA c) then 1 else (bif (mayB c) then 1 else 0))
theorem k04_May (c : S23) (W : World) : Calls Try.prog 12 #[.agg (encC c).toArray] W (fun e W' => e = .returned (.int .i64 (m04May c)) ∧ Below W.heap.size W W') := by
 refine rf_enter (args := [.agg (encC c).toArray]) [] Try.func12 rfl (by simp) ?_
 refine rX 7 ?_
 refine qK (k04_May.j1.c c) (k04_May.j1.r c) (k04_May.j1.i c) ?_ ?_
 ·refine rZ 5 ?_
  refine qS 6 (decide (c.f0 < 1)) (fun h1 => ?_) (fun h1 => ?_)
  ·refine rZ 11 ?_
   refine rG [1, 2, 16] (fun tv_ => ?_)
   exact qJ (k04_May.j1.c c) (k04_May.j1.r c) (k04_May.j1.i c) ⟨true, tv_⟩ (by show true = (mayA c); unfold mayA; simp only [h1, cond_true, cond_false]) (by simp [k04_May.j1.r])
  ·refine rZ 5 ?_
   refine qS 11 (decide (c.f0 > 8)) (fun h2 => ?_) (fun h2 => ?_)
   ·refine rZ 6 ?_
    refine rG [1, 2, 16] (fun tv_ => ?_)
    exact qJ (k04_May.j1.c c) (k04_May.j1.r c) (k04_May.j1.i c) ⟨true, tv_⟩ (by show true = (mayA c); unfold mayA; simp only [h1, h2, cond_true, cond_false]) (by simp [k04_May.j1.r])
   ·refine rZ 2 ?_
    refine qV [.int .i64 c.f1] (fun W_ hT_ hR_ => c03_May c.f1 _) ?_
    refine rZ 3 ?_
    refine rG [1, 2, 16] (fun tv_ => ?_)
    exact qJ (k04_May.j1.c c) (k04_May.j1.r c) (k04_May.j1.i c) ⟨(!(isPow c.f1)), tv_⟩ (by show (!(isPow c.f1)) = (mayA c); unfold mayA; simp only [h1, h2, cond_true, cond_false]) (by simp [k04_May.j1.r])
 ·rintro ⟨q, tv3_⟩ rfl
  refine qI (mayA c) (fun h4 => ?_) (fun h4 => ?_)
  ·refine rZ 4 ?_
   obtain ⟨m_, hq_, hm_⟩ := nm (m04May c)
   unfold m04May at hm_
   simp only [bT h4] at hm_
   refine qR [.int .i64 m_] (fun W1_ hT_ hR_ hF_ => ?_) (h := by rewrite [← hm_]; kernel_rfl)
   rw [hq_, ← hm_]
   exact ⟨rfl, hT_.below⟩
  ·refine rZ 3 ?_
   refine qK (k04_May.j2.c c tv3_) (k04_May.j2.r c tv3_) (k04_May.j2.i c tv3_) ?_ ?_
   ·refine rZ 5 ?_
    refine qS 20 (decide (c.f2 < 0)) (fun h5 => ?_) (fun h5 => ?_)
    ·refine rZ 25 ?_
     refine rG [1, 2, 44] (fun tv_ => ?_)
     exact qJ (k04_May.j2.c c tv3_) (k04_May.j2.r c tv3_) (k04_May.j2.i c tv3_) ⟨true, tv_⟩ (by show true = (mayB c); unfold mayB; simp only [h4, h5, cond_true, cond_false]) (by simp [k04_May.j2.r, k04_May.j1.r])
    ·refine rZ 5 ?_
     refine qS 25 (decide (c.f2 > 256)) (fun h6 => ?_) (fun h6 => ?_)
     ·refine rZ 20 ?_
      refine rG [1, 2, 44] (fun tv_ => ?_)
      exact qJ (k04_May.j2.c c tv3_) (k04_May.j2.r c tv3_) (k04_May.j2.i c tv3_) ⟨true, tv_⟩ (by show true = (mayB c); unfold mayB; simp only [h4, h5, h6, cond_true, cond_false]) (by simp [k04_May.j2.r, k04_May.j1.r])
     ·refine rZ 5 ?_
      refine qS 30 (decide (c.f3 < 0)) (fun h7 => ?_) (fun h7 => ?_)
      ·refine rZ 15 ?_
       refine rG [1, 2, 44] (fun tv_ => ?_)
       exact qJ (k04_May.j2.c c tv3_) (k04_May.j2.r c tv3_) (k04_May.j2.i c tv3_) ⟨true, tv_⟩ (by show true = (mayB c); unfold mayB; simp only [h4, h5, h6, h7, cond_true, cond_false]) (by simp [k04_May.j2.r, k04_May.j1.r])
      ·refine rZ 5 ?_
       refine qS 35 (decide (c.f3 > 65536)) (fun h8 => ?_) (fun h8 => ?_)
       ·refine rZ 10 ?_
        refine rG [1, 2, 44] (fun tv_ => ?_)
        exact qJ (k04_May.j2.c c tv3_) (k04_May.j2.r c tv3_) (k04_May.j2.i c tv3_) ⟨true, tv_⟩ (by show true = (mayB c); unfold mayB; simp only [h4, h5, h6, h7, h8, cond_true, cond_false]) (by simp [k04_May.j2.r, k04_May.j1.r])
       ·refine rZ 5 ?_
        refine qS 40 (decide (c.f4 < 1)) (fun h9 => ?_) (fun h9 => ?_)
        ·refine rZ 5 ?_
         refine rG [1, 2, 44] (fun tv_ => ?_)
         exact qJ (k04_May.j2.c c tv3_) (k04_May.j2.r c tv3_) (k04_May.j2.i c tv3_) ⟨true, tv_⟩ (by show true = (mayB c); unfold mayB; simp only [h4, h5, h6, h7, h8, h9, cond_true, cond_false]) (by simp [k04_May.j2.r, k04_May.j1.r])
        ·refine rZ 5 ?_
         refine rG [1, 2, 44] (fun tv_ => ?_)
         exact qJ (k04_May.j2.c c tv3_) (k04_May.j2.r c tv3_) (k04_May.j2.i c tv3_) ⟨(decide (c.f4 > 256)), tv_⟩ (by show (decide (c.f4 > 256)) = (mayB c); unfold mayB; simp only [h4, h5, h6, h7, h8, h9, cond_true, cond_false]) (by simp [k04_May.j2.r, k04_May.j1.r])
   ·rintro ⟨q, tv10_⟩ rfl
    refine qI (mayB c) (fun h11 => ?_) (fun h11 => ?_)
    ·refine rZ 4 ?_
     obtain ⟨m_, hq_, hm_⟩ := nm (m04May c)
     unfold m04May at hm_
     simp only [bF h4, bT h11] at hm_
     refine qR [.int .i64 m_] (fun W1_ hT_ hR_ hF_ => ?_) (h := by rewrite [← hm_]; kernel_rfl)
     rw [hq_, ← hm_]
     exact ⟨rfl, hT_.below⟩
    ·refine rZ 5 ?_
     obtain ⟨m_, hq_, hm_⟩ := nm (m04May c)
     unfold m04May at hm_
     simp only [bF h4, bF h11] at hm_
     refine qR [.int .i64 m_] (fun W1_ hT_ hR_ hF_ => ?_) (h := by rewrite [← hm_]; kernel_rfl)
     rw [hq_, ← hm_]
     exact ⟨rfl, hT_.below⟩
theorem m04May_eq (c : S23) : m04May c = lMay c := by
 unfold m04May mayA mayB lMay
 simp only [Bool.cond_decide]
 by_cases h : OkC c
 ·rw [if_pos h]
  have hp := h.2.1
  have h1 := h.1; have h2 := h.2.2
  rw [hp]
  repeat' split
  all_goals first | rfl | omega | (rw [decide_eq_false (by omega)]; rfl)
 ·rw [if_neg h]
  cases hp : isPow c.f1
  ·repeat' split
   all_goals rfl
  ·repeat' split
   all_goals first | rfl | skip
   all_goals (by_cases q9 : c.f4 > 256; (rw [decide_eq_true q9]; rfl); exact absurd (show OkC c from ⟨⟨by omega, by omega⟩, hp, ⟨by omega, by omega⟩, ⟨by omega, by omega⟩, by omega, by omega⟩) h)
theorem c04_May (c : S23) (W : World) : Calls Try.prog 12 #[.agg (encC c).toArray] W fun e w' => e = .returned (.int .i64 (lMay c)) ∧ Below W.heap.size W w' := by
 have h := k04_May c W
 rw [m04May_eq] at h
 exact h
def m04Ops (c : S23) : Int := (bif ((lMay c) != 0) then 0 else (IntKind.i64.wrap (c.f0 * c.f4)))
theorem k04_Ops (c : S23) (W : World) : Calls Try.prog 38 #[.agg (encC c).toArray] W (fun e W' => e = .returned (.int .i64 (m04Ops c)) ∧ Below W.heap.size W W') := by
 refine rf_enter (args := [.agg (encC c).toArray]) [] Try.func38 rfl (by simp) ?_
 refine rX 9 ?_
 refine qV [.agg (encC c).toArray] (fun W_ hT_ hR_ => c04_May c _) ?_
 refine rZ 2 ?_
 refine qI ((lMay c) != 0) (fun h1 => ?_) (fun h1 => ?_)
 ·refine rZ 4 ?_
  obtain ⟨m_, hq_, hm_⟩ := nm (m04Ops c)
  unfold m04Ops at hm_
  simp only [bT h1] at hm_
  refine qR [.int .i64 m_] (fun W1_ hT_ hR_ hF_ => ?_) (h := by rewrite [← hm_]; kernel_rfl)
  rw [hq_, ← hm_]
  exact ⟨rfl, hT_.below⟩
 ·refine rZ 10 ?_
  obtain ⟨m_, hq_, hm_⟩ := nm (m04Ops c)
  unfold m04Ops at hm_
  simp only [bF h1] at hm_
  refine qR [.int .i64 m_] (fun W1_ hT_ hR_ hF_ => ?_) (h := by rewrite [← hm_]; kernel_rfl)
  rw [hq_, ← hm_]
  exact ⟨rfl, hT_.below⟩
theorem m04Ops_eq (c : S23) : m04Ops c = lOps c := by
 unfold m04Ops lOps lMay
 by_cases h : OkC c
 ·rw [if_pos h, if_pos h]
  have hb := bnds h
  exact w64 (by omega) (by omega)
 ·rw [if_neg h, if_neg h]; rfl
theorem c04_Ops (c : S23) (W : World) : Calls Try.prog 38 #[.agg (encC c).toArray] W fun e w' => e = .returned (.int .i64 (lOps c)) ∧ Below W.heap.size W w' := by
 have h := k04_Ops c W
 rw [m04Ops_eq] at h
 exact h
def m04Nodes (c : S23) : Int := (bif ((lMay c) != 0) then 0 else (IntKind.i64.wrap ((IntKind.i64.wrap (1 + c.f1)) + (IntKind.i64.wrap ((IntKind.i64.wrap (2 * c.f0)) * c.f4)))))
theorem k04_Nodes (c : S23) (W : World) : Calls Try.prog 37 #[.agg (encC c).toArray] W (fun e W' => e = .returned (.int .i64 (m04Nodes c)) ∧ Below W.heap.size W W') := by
 refine rf_enter (args := [.agg (encC c).toArray]) [] Try.func37 rfl (by simp) ?_
 refine rX 9 ?_
 refine qV [.agg (encC c).toArray] (fun W_ hT_ hR_ => c04_May c _) ?_
 refine rZ 2 ?_
 refine qI ((lMay c) != 0) (fun h1 => ?_) (fun h1 => ?_)
 ·refine rZ 4 ?_
  obtain ⟨m_, hq_, hm_⟩ := nm (m04Nodes c)
  unfold m04Nodes at hm_
  simp only [bT h1] at hm_
  refine qR [.int .i64 m_] (fun W1_ hT_ hR_ hF_ => ?_) (h := by rewrite [← hm_]; kernel_rfl)
  rw [hq_, ← hm_]
  exact ⟨rfl, hT_.below⟩
 ·refine rZ 15 ?_
  obtain ⟨m_, hq_, hm_⟩ := nm (m04Nodes c)
  unfold m04Nodes at hm_
  simp only [bF h1] at hm_
  refine qR [.int .i64 m_] (fun W1_ hT_ hR_ hF_ => ?_) (h := by rewrite [← hm_]; kernel_rfl)
  rw [hq_, ← hm_]
  exact ⟨rfl, hT_.below⟩
theorem m04Nodes_eq (c : S23) : m04Nodes c = lNodes c := by
 unfold m04Nodes lNodes lMay
 by_cases h : OkC c
 ·rw [if_pos h, if_pos h]
  have hb := bnds h
  show IntKind.i64.wrap (IntKind.i64.wrap (1 + c.f1) + IntKind.i64.wrap (IntKind.i64.wrap (2 * c.f0) * c.f4)) = _
  rw [w64 (n := 1 + c.f1) (by omega) (by omega), w64 (n := 2 * c.f0) (by omega) (by omega), Int.mul_assoc, w64 (n := 2 * (c.f0 * c.f4)) (by omega) (by omega), w64 (by omega) (by omega)]
 ·rw [if_neg h, if_neg h]; rfl
theorem c04_Nodes (c : S23) (W : World) : Calls Try.prog 37 #[.agg (encC c).toArray] W fun e w' => e = .returned (.int .i64 (lNodes c)) ∧ Below W.heap.size W w' := by
 have h := k04_Nodes c W
 rw [m04Nodes_eq] at h
 exact h
def m04Few (c : S23) : Bool := (bif ((lMay c) == 0) then (bif (decide (c.f0 ≤ 4)) then (bif (decide (c.f1 ≤ 4)) then (decide (c.f4 ≤ 8)) else false) else false) else false)
theorem k04_Few (c : S23) (W : World) : Calls Try.prog 5 #[.agg (encC c).toArray] W (fun e W' => e = .returned (.bool (m04Few c)) ∧ Below W.heap.size W W') := by
 refine rf_enter (args := [.agg (encC c).toArray]) [] Try.func5 rfl (by simp) ?_
 refine rX 8 ?_
 refine qV [.agg (encC c).toArray] (fun W_ hT_ hR_ => c04_May c _) ?_
 refine rZ 2 ?_
 refine qS 6 ((lMay c) == 0) (fun h1 => ?_) (fun h1 => ?_)
 ·refine rZ 5 ?_
  refine qS 11 (decide (c.f0 ≤ 4)) (fun h2 => ?_) (fun h2 => ?_)
  ·refine rZ 5 ?_
   refine qS 16 (decide (c.f1 ≤ 4)) (fun h3 => ?_) (fun h3 => ?_)
   ·refine rZ 6 ?_
    obtain ⟨m_, hq_, hm_⟩ := nm (m04Few c)
    unfold m04Few at hm_
    simp only [bT h1, bT h2, bT h3] at hm_
    refine qR [.bool m_] (fun W1_ hT_ hR_ hF_ => ?_) (h := by rewrite [← hm_]; kernel_rfl)
    rw [hq_, ← hm_]
    exact ⟨rfl, hT_.below⟩
   ·refine rZ 6 ?_
    obtain ⟨m_, hq_, hm_⟩ := nm (m04Few c)
    unfold m04Few at hm_
    simp only [bT h1, bT h2, bF h3] at hm_
    refine qR [.bool m_] (fun W1_ hT_ hR_ hF_ => ?_) (h := by rewrite [← hm_]; kernel_rfl)
    rw [hq_, ← hm_]
    exact ⟨rfl, hT_.below⟩
  ·refine rZ 11 ?_
   obtain ⟨m_, hq_, hm_⟩ := nm (m04Few c)
   unfold m04Few at hm_
   simp only [bT h1, bF h2] at hm_
   refine qR [.bool m_] (fun W1_ hT_ hR_ hF_ => ?_) (h := by rewrite [← hm_]; kernel_rfl)
   rw [hq_, ← hm_]
   exact ⟨rfl, hT_.below⟩
 ·refine rZ 16 ?_
  obtain ⟨m_, hq_, hm_⟩ := nm (m04Few c)
  unfold m04Few at hm_
  simp only [bF h1] at hm_
  refine qR [.bool m_] (fun W1_ hT_ hR_ hF_ => ?_) (h := by rewrite [← hm_]; kernel_rfl)
  rw [hq_, ← hm_]
  exact ⟨rfl, hT_.below⟩
def fewC (c : S23) : Bool := decide (OkC c ∧ c.f0 ≤ 4 ∧ c.f1 ≤ 4 ∧ c.f4 ≤ 8)
theorem m04Few_eq (c : S23) : m04Few c = fewC c := by
 unfold m04Few fewC
 rw [may_if]
 by_cases h : OkC c <;> by_cases h1 : c.f0 ≤ 4 <;> by_cases h2 : c.f1 ≤ 4 <;> simp [h, h1, h2]
theorem c04_Few (c : S23) (W : World) : Calls Try.prog 5 #[.agg (encC c).toArray] W fun e w' => e = .returned (.bool (fewC c)) ∧ Below W.heap.size W w' := by
 have h := k04_Few c W
 rw [m04Few_eq] at h
 exact h
def m05In (c : S23) (n : Int) (t : Int) : Bool := (bif ((lMay c) == 0) then (bif (decide (n ≥ 0)) then (decide (n < t)) else false) else false)
theorem k05_in (c : S23) (n : Int) (t : Int) (W : World) : Calls Try.prog 57 #[.agg (encC c).toArray, .int .i64 n, .int .i64 t] W (fun e W' => e = .returned (.bool (m05In c n t)) ∧ Below W.heap.size W W') := by
 refine rf_enter (args := [.agg (encC c).toArray, .int .i64 n, .int .i64 t]) [] Try.func57 rfl (by simp) ?_
 refine rX 8 ?_
 refine qV [.agg (encC c).toArray] (fun W_ hT_ hR_ => c04_May c _) ?_
 refine rZ 2 ?_
 refine qS 10 ((lMay c) == 0) (fun h1 => ?_) (fun h1 => ?_)
 ·refine rZ 4 ?_
  refine qS 14 (decide (n ≥ 0)) (fun h2 => ?_) (fun h2 => ?_)
  ·refine rZ 6 ?_
   obtain ⟨m_, hq_, hm_⟩ := nm (m05In c n t)
   unfold m05In at hm_
   simp only [bT h1, bT h2] at hm_
   refine qR [.bool m_] (fun W1_ hT_ hR_ hF_ => ?_) (h := by rewrite [← hm_]; kernel_rfl)
   rw [hq_, ← hm_]
   exact ⟨rfl, hT_.below⟩
  ·refine rZ 6 ?_
   obtain ⟨m_, hq_, hm_⟩ := nm (m05In c n t)
   unfold m05In at hm_
   simp only [bT h1, bF h2] at hm_
   refine qR [.bool m_] (fun W1_ hT_ hR_ hF_ => ?_) (h := by rewrite [← hm_]; kernel_rfl)
   rw [hq_, ← hm_]
   exact ⟨rfl, hT_.below⟩
 ·refine rZ 10 ?_
  obtain ⟨m_, hq_, hm_⟩ := nm (m05In c n t)
  unfold m05In at hm_
  simp only [bF h1] at hm_
  refine qR [.bool m_] (fun W1_ hT_ hR_ hF_ => ?_) (h := by rewrite [← hm_]; kernel_rfl)
  rw [hq_, ← hm_]
  exact ⟨rfl, hT_.below⟩
theorem m05In_eq (c : S23) (n t : Int) : m05In c n t = inF c n t := by
 unfold m05In inF
 rw [may_if]
 by_cases h : OkC c <;> by_cases h1 : n ≥ 0 <;> simp [h, h1]
theorem c05_in (c : S23) (n : Int) (t : Int) (W : World) : Calls Try.prog 57 #[.agg (encC c).toArray, .int .i64 n, .int .i64 t] W fun e w' => e = .returned (.bool (inF c n t)) ∧ Below W.heap.size W w' := by
 have h := k05_in c n t W
 rw [m05In_eq] at h
 exact h
def k05_Next.T1 : Bool × List (List Nat × List Nat) := (true, [([], []), ([], []), ([], []), ([2], [2]), ([0, 1, 3, 3], [0, 1, 3])])
def m05Next (c : S23) (n : Int) : Int := (bif (inF c n (lNodes c)) then n else (-1))
theorem k05_Next (c : S23) (n : Int) (W : World) : Calls Try.prog 56 #[.agg (encC c).toArray, .int .i64 n] W (fun e W' => e = .returned (.int .i64 (m05Next c n)) ∧ Below W.heap.size W W') := by
 refine rf_enter (args := [.agg (encC c).toArray, .int .i64 n]) [] Try.func56 rfl (by simp) ?_
 refine rX 7 ?_
 refine qD k05_Next.T1 [0, 0, 0, 4, 15] [] [0] [] ?_
 refine rO [0, 1, 2, 3, 4] ?_
 refine rZ 4 ?_
 refine qV [.agg (encC c).toArray] (fun W_ hT_ hR_ => c04_Nodes c _) ?_
 refine rZ 1 ?_
 refine qV [.agg (encC c).toArray, .int .i64 n, .int .i64 (lNodes c)] (fun W_ hT_ hR_ => c05_in c n (lNodes c) _) ?_
 refine rZ 1 ?_
 refine qI (inF c n (lNodes c)) (fun h1 => ?_) (fun h1 => ?_)
 ·refine rZ 5 ?_
  obtain ⟨m_, hq_, hm_⟩ := nm (m05Next c n)
  unfold m05Next at hm_
  simp only [bT h1] at hm_
  refine qR [.int .i64 m_] (fun W1_ hT_ hR_ hF_ => ?_) (h := by rewrite [← hm_]; kernel_rfl)
  rw [hq_, ← hm_]
  exact ⟨rfl, hT_.below⟩
 ·refine rZ 5 ?_
  obtain ⟨m_, hq_, hm_⟩ := nm (m05Next c n)
  unfold m05Next at hm_
  simp only [bF h1] at hm_
  refine qR [.int .i64 m_] (fun W1_ hT_ hR_ hF_ => ?_) (h := by rewrite [← hm_]; kernel_rfl)
  rw [hq_, ← hm_]
  exact ⟨rfl, hT_.below⟩
theorem m05Next_eq (c : S23) (n : Int) : m05Next c n = lNext c n := by
 unfold m05Next lNext inF lNodes
 simp only [Bool.cond_decide]
 by_cases h : OkC c
 ·rw [if_pos h]
 ·simp only [h, false_and, if_false]
theorem c05_Next (c : S23) (n : Int) (W : World) : Calls Try.prog 56 #[.agg (encC c).toArray, .int .i64 n] W fun e w' => e = .returned (.int .i64 (lNext c n)) ∧ Below W.heap.size W w' := by
 have h := k05_Next c n W
 rw [m05Next_eq] at h
 exact h
def k05_Word.T1 : Bool × List (List Nat × List Nat) := (true, [([], []), ([], []), ([], []), ([2], [2]), ([0, 1, 3, 3], [0, 1, 3])])
def m05Word (c : S23) (n : Int) : Int := (bif (inF c n (lOps c)) then (IntKind.i64.wrap ((lNodes c) + n)) else (-1))
theorem k05_Word (c : S23) (n : Int) (W : World) : Calls Try.prog 60 #[.agg (encC c).toArray, .int .i64 n] W (fun e W' => e = .returned (.int .i64 (m05Word c n)) ∧ Below W.heap.size W W') := by
 refine rf_enter (args := [.agg (encC c).toArray, .int .i64 n]) [] Try.func60 rfl (by simp) ?_
 refine rX 7 ?_
 refine qD k05_Word.T1 [0, 0, 0, 4, 15] [] [0] [] ?_
 refine rO [0, 1, 2, 3, 4] ?_
 refine rZ 4 ?_
 refine qV [.agg (encC c).toArray] (fun W_ hT_ hR_ => c04_Ops c _) ?_
 refine rZ 1 ?_
 refine qV [.agg (encC c).toArray, .int .i64 n, .int .i64 (lOps c)] (fun W_ hT_ hR_ => c05_in c n (lOps c) _) ?_
 refine rZ 1 ?_
 refine qI (inF c n (lOps c)) (fun h1 => ?_) (fun h1 => ?_)
 ·refine rZ 3 ?_
  refine qV [.agg (encC c).toArray] (fun W_ hT_ hR_ => c04_Nodes c _) ?_
  refine rZ 4 ?_
  obtain ⟨m_, hq_, hm_⟩ := nm (m05Word c n)
  unfold m05Word at hm_
  simp only [bT h1] at hm_
  refine qR [.int .i64 m_] (fun W1_ hT_ hR_ hF_ => ?_) (h := by rewrite [← hm_]; kernel_rfl)
  rw [hq_, ← hm_]
  exact ⟨rfl, hT_.below⟩
 ·refine rZ 5 ?_
  obtain ⟨m_, hq_, hm_⟩ := nm (m05Word c n)
  unfold m05Word at hm_
  simp only [bF h1] at hm_
  refine qR [.int .i64 m_] (fun W1_ hT_ hR_ hF_ => ?_) (h := by rewrite [← hm_]; kernel_rfl)
  rw [hq_, ← hm_]
  exact ⟨rfl, hT_.below⟩
theorem m05Word_eq (c : S23) (n : Int) : m05Word c n = lWord c n := by
 unfold m05Word lWord inF lNodes lOps
 simp only [Bool.cond_decide]
 by_cases h : OkC c
 ·simp only [h, true_and, if_true]
  have hb := bnds h
  split
  ·exact w64 (by omega) (by omega)
  ·rfl
 ·simp only [h, false_and, if_false]
theorem c05_Word (c : S23) (n : Int) (W : World) : Calls Try.prog 60 #[.agg (encC c).toArray, .int .i64 n] W fun e w' => e = .returned (.int .i64 (lWord c n)) ∧ Below W.heap.size W w' := by
 have h := k05_Word c n W
 rw [m05Word_eq] at h
 exact h
def k05_Ann.T2 : Bool × List (List Nat × List Nat) := (true, [([], []), ([0], [0]), ([], []), ([2, 1], [2]), ([1, 3], [1, 3]), ([], []), ([4, 5], [4, 5]), ([6, 3, 0, 1, 2, 3, 4, 5, 6], [6])])
def m05Ann (c : S23) (n : Int) : Int := (bif (inF c n c.f0) then (IntKind.i64.wrap ((IntKind.i64.wrap ((lNodes c) + (lOps c))) + n)) else (-1))
theorem k05_Ann (c : S23) (n : Int) (W : World) : Calls Try.prog 68 #[.agg (encC c).toArray, .int .i64 n] W (fun e W' => e = .returned (.int .i64 (m05Ann c n)) ∧ Below W.heap.size W W') := by
 refine rf_enter (args := [.agg (encC c).toArray, .int .i64 n]) [] Try.func68 rfl (by simp) ?_
 refine rX 12 ?_
 refine qV [.agg (encC c).toArray, .int .i64 n, .int .i64 c.f0] (fun W_ hT_ hR_ => c05_in c n c.f0 _) ?_
 refine rZ 1 ?_
 refine qI (inF c n c.f0) (fun h1 => ?_) (fun h1 => ?_)
 ·refine rZ 1 ?_
  refine qD k05_Ann.T2 [0, 1, 0, 7, 15, 0, 63, 127] [] [0] [] ?_
  refine rO [0, 2, 5, 1, 3, 4, 6, 7] ?_
  refine rZ 4 ?_
  refine qV [.agg (encC c).toArray] (fun W_ hT_ hR_ => c04_Nodes c _) ?_
  refine rZ 1 ?_
  refine qV [.agg (encC c).toArray] (fun W_ hT_ hR_ => c04_Ops c _) ?_
  refine rZ 4 ?_
  obtain ⟨m_, hq_, hm_⟩ := nm (m05Ann c n)
  unfold m05Ann at hm_
  simp only [bT h1] at hm_
  refine qR [.int .i64 m_] (fun W1_ hT_ hR_ hF_ => ?_) (h := by rewrite [← hm_]; kernel_rfl)
  rw [hq_, ← hm_]
  exact ⟨rfl, hT_.below⟩
 ·refine rZ 5 ?_
  obtain ⟨m_, hq_, hm_⟩ := nm (m05Ann c n)
  unfold m05Ann at hm_
  simp only [bF h1] at hm_
  refine qR [.int .i64 m_] (fun W1_ hT_ hR_ hF_ => ?_) (h := by rewrite [← hm_]; kernel_rfl)
  rw [hq_, ← hm_]
  exact ⟨rfl, hT_.below⟩
theorem m05Ann_eq (c : S23) (n : Int) : m05Ann c n = lAnn c n := by
 unfold m05Ann lAnn inF lNodes lOps
 simp only [Bool.cond_decide]
 by_cases h : OkC c
 ·simp only [h, true_and, if_true]
  have hb := bnds h
  split
  ·rw [w64 (n := 1 + c.f1 + 2 * (c.f0 * c.f4) + c.f0 * c.f4) (by omega) (by omega), w64 (by omega) (by omega)]
  ·rfl
 ·simp only [h, false_and, if_false]
theorem c05_Ann (c : S23) (n : Int) (W : World) : Calls Try.prog 68 #[.agg (encC c).toArray, .int .i64 n] W fun e w' => e = .returned (.int .i64 (lAnn c n)) ∧ Below W.heap.size W w' := by
 have h := k05_Ann c n W
 rw [m05Ann_eq] at h
 exact h
def m05Head (c : S23) (n : Int) : Int := (bif (inF c n c.f1) then (IntKind.i64.wrap (1 + n)) else (-1))
theorem k05_Head (c : S23) (n : Int) (W : World) : Calls Try.prog 42 #[.agg (encC c).toArray, .int .i64 n] W (fun e W' => e = .returned (.int .i64 (m05Head c n)) ∧ Below W.heap.size W W') := by
 refine rf_enter (args := [.agg (encC c).toArray, .int .i64 n]) [] Try.func42 rfl (by simp) ?_
 refine rX 12 ?_
 refine qV [.agg (encC c).toArray, .int .i64 n, .int .i64 c.f1] (fun W_ hT_ hR_ => c05_in c n c.f1 _) ?_
 refine rZ 1 ?_
 refine qI (inF c n c.f1) (fun h1 => ?_) (fun h1 => ?_)
 ·refine rZ 6 ?_
  obtain ⟨m_, hq_, hm_⟩ := nm (m05Head c n)
  unfold m05Head at hm_
  simp only [bT h1] at hm_
  refine qR [.int .i64 m_] (fun W1_ hT_ hR_ hF_ => ?_) (h := by rewrite [← hm_]; kernel_rfl)
  rw [hq_, ← hm_]
  exact ⟨rfl, hT_.below⟩
 ·refine rZ 5 ?_
  obtain ⟨m_, hq_, hm_⟩ := nm (m05Head c n)
  unfold m05Head at hm_
  simp only [bF h1] at hm_
  refine qR [.int .i64 m_] (fun W1_ hT_ hR_ hF_ => ?_) (h := by rewrite [← hm_]; kernel_rfl)
  rw [hq_, ← hm_]
  exact ⟨rfl, hT_.below⟩
theorem m05Head_eq (c : S23) (n : Int) : m05Head c n = lHead c n := by
 unfold m05Head lHead inF
 simp only [Bool.cond_decide]
 by_cases h : OkC c
 ·simp only [h, true_and]
  have hb := bnds h
  split
  ·exact w64 (by omega) (by omega)
  ·rfl
 ·simp only [h, false_and, if_false]
theorem c05_Head (c : S23) (n : Int) (W : World) : Calls Try.prog 42 #[.agg (encC c).toArray, .int .i64 n] W fun e w' => e = .returned (.int .i64 (lHead c n)) ∧ Below W.heap.size W w' := by
 have h := k05_Head c n W
 rw [m05Head_eq] at h
 exact h
def k05_Len.T3 : Bool × List (List Nat × List Nat) := (true, [([], []), ([0], [0]), ([], []), ([2, 1], [2]), ([1, 3], [1, 3]), ([], []), ([5], [5]), ([4, 6], [4, 6]), ([7, 3, 0, 1, 2, 3, 4, 5, 6, 7], [7])])
def m05Len (c : S23) : Int := (bif ((lMay c) != 0) then 0 else (IntKind.i64.wrap ((IntKind.i64.wrap ((lNodes c) + (lOps c))) + c.f0)))
theorem k05_Len (c : S23) (W : World) : Calls Try.prog 32 #[.agg (encC c).toArray] W (fun e W' => e = .returned (.int .i64 (m05Len c)) ∧ Below W.heap.size W W') := by
 refine rf_enter (args := [.agg (encC c).toArray]) [] Try.func32 rfl (by simp) ?_
 refine rX 9 ?_
 refine qV [.agg (encC c).toArray] (fun W_ hT_ hR_ => c04_May c _) ?_
 refine rZ 2 ?_
 refine qI ((lMay c) != 0) (fun h1 => ?_) (fun h1 => ?_)
 ·refine rZ 4 ?_
  obtain ⟨m_, hq_, hm_⟩ := nm (m05Len c)
  unfold m05Len at hm_
  simp only [bT h1] at hm_
  refine qR [.int .i64 m_] (fun W1_ hT_ hR_ hF_ => ?_) (h := by rewrite [← hm_]; kernel_rfl)
  rw [hq_, ← hm_]
  exact ⟨rfl, hT_.below⟩
 ·refine rZ 2 ?_
  refine qD k05_Len.T3 [0, 1, 0, 7, 15, 0, 32, 127, 255] [] [0] [] ?_
  refine rO [0, 2, 5, 6, 1, 3, 4, 7, 8] ?_
  refine rZ 5 ?_
  refine qV [.agg (encC c).toArray] (fun W_ hT_ hR_ => c04_Nodes c _) ?_
  refine rZ 1 ?_
  refine qV [.agg (encC c).toArray] (fun W_ hT_ hR_ => c04_Ops c _) ?_
  refine rZ 4 ?_
  obtain ⟨m_, hq_, hm_⟩ := nm (m05Len c)
  unfold m05Len at hm_
  simp only [bF h1] at hm_
  refine qR [.int .i64 m_] (fun W1_ hT_ hR_ hF_ => ?_) (h := by rewrite [← hm_]; kernel_rfl)
  rw [hq_, ← hm_]
  exact ⟨rfl, hT_.below⟩
theorem m05Len_eq (c : S23) : m05Len c = lLen c := by
 unfold m05Len lLen lMay lNodes lOps
 by_cases h : OkC c
 ·simp only [if_pos h]
  have hb := bnds h
  show IntKind.i64.wrap (IntKind.i64.wrap _ + _) = _
  rw [w64 (n := 1 + c.f1 + 2 * (c.f0 * c.f4) + c.f0 * c.f4) (by omega) (by omega), w64 (by omega) (by omega)]
 ·simp only [if_neg h]; rfl
theorem c05_Len (c : S23) (W : World) : Calls Try.prog 32 #[.agg (encC c).toArray] W fun e w' => e = .returned (.int .i64 (lLen c)) ∧ Below W.heap.size W w' := by
 have h := k05_Len c W
 rw [m05Len_eq] at h
 exact h
def m05Node (c : S23) (s : Int) (n : Int) : Int := (bif (inF c s c.f0) then (bif (inF c n (IntKind.i64.wrap (2 * c.f4))) then (IntKind.i64.wrap ((IntKind.i64.wrap ((IntKind.i64.wrap (1 + c.f1)) + (IntKind.i64.wrap ((IntKind.i64.wrap (2 * s)) * c.f4)))) + n)) else (-1)) else (-1))
theorem k05_Node (c : S23) (s : Int) (n : Int) (W : World) : Calls Try.prog 99 #[.agg (encC c).toArray, .int .i64 s, .int .i64 n] W (fun e W' => e = .returned (.int .i64 (m05Node c s n)) ∧ Below W.heap.size W W') := by
 refine rf_enter (args := [.agg (encC c).toArray, .int .i64 s, .int .i64 n]) [] Try.func99 rfl (by simp) ?_
 refine rX 12 ?_
 refine qV [.agg (encC c).toArray, .int .i64 s, .int .i64 c.f0] (fun W_ hT_ hR_ => c05_in c s c.f0 _) ?_
 refine rZ 1 ?_
 refine qS 12 (inF c s c.f0) (fun h1 => ?_) (fun h1 => ?_)
 ·refine rZ 5 ?_
  refine qV [.agg (encC c).toArray, .int .i64 n, .int .i64 (IntKind.i64.wrap (2 * c.f4))] (fun W_ hT_ hR_ => c05_in c n (IntKind.i64.wrap (2 * c.f4)) _) ?_
  refine rZ 2 ?_
  refine qI (inF c n (IntKind.i64.wrap (2 * c.f4))) (fun h2 => ?_) (fun h2 => ?_)
  ·refine rZ 15 ?_
   obtain ⟨m_, hq_, hm_⟩ := nm (m05Node c s n)
   unfold m05Node at hm_
   simp only [bT h1, bT h2] at hm_
   refine qR [.int .i64 m_] (fun W1_ hT_ hR_ hF_ => ?_) (h := by rewrite [← hm_]; kernel_rfl)
   rw [hq_, ← hm_]
   exact ⟨rfl, hT_.below⟩
  ·refine rZ 5 ?_
   obtain ⟨m_, hq_, hm_⟩ := nm (m05Node c s n)
   unfold m05Node at hm_
   simp only [bT h1, bF h2] at hm_
   refine qR [.int .i64 m_] (fun W1_ hT_ hR_ hF_ => ?_) (h := by rewrite [← hm_]; kernel_rfl)
   rw [hq_, ← hm_]
   exact ⟨rfl, hT_.below⟩
 ·refine rZ 14 ?_
  obtain ⟨m_, hq_, hm_⟩ := nm (m05Node c s n)
  unfold m05Node at hm_
  simp only [bF h1] at hm_
  refine qR [.int .i64 m_] (fun W1_ hT_ hR_ hF_ => ?_) (h := by rewrite [← hm_]; kernel_rfl)
  rw [hq_, ← hm_]
  exact ⟨rfl, hT_.below⟩
theorem m05Node_eq (c : S23) (s n : Int) : m05Node c s n = lNode c s n := by
 unfold m05Node lNode inF
 simp only [Bool.cond_decide]
 by_cases h : OkC c
 ·have hb := bnds h
  simp only [h, true_and]
  rw [w64 (n := 2 * c.f4) (by omega) (by omega)]
  by_cases h1 : 0 ≤ s ∧ s < c.f0
  ·by_cases h2 : 0 ≤ n ∧ n < 2 * c.f4
   ·have hs := sc_le h1.1 h1.2 h.1.2 h.2.2.2.2.1 h.2.2.2.2.2
    rw [if_pos h1, if_pos h2, if_pos ⟨h1, h2⟩, w64 (n := 1 + c.f1) (by omega) (by omega), w64 (n := 2 * s) (by omega) (by omega), Int.mul_assoc, w64 (n := 2 * (s * c.f4)) (by omega) (by omega), w64 (n := 1 + c.f1 + 2 * (s * c.f4)) (by omega) (by omega), w64 (by omega) (by omega)]
   ·rw [if_pos h1, if_neg h2, if_neg (fun q => h2 q.2)]
  ·rw [if_neg h1, if_neg (fun q => h1 q.1)]
 ·simp only [h, false_and, if_false]
theorem c05_Node (c : S23) (s : Int) (n : Int) (W : World) : Calls Try.prog 99 #[.agg (encC c).toArray, .int .i64 s, .int .i64 n] W fun e w' => e = .returned (.int .i64 (lNode c s n)) ∧ Below W.heap.size W w' := by
 have h := k05_Node c s n W
 rw [m05Node_eq] at h
 exact h
def m05Op (c : S23) (s : Int) (n : Int) : Int := (bif (inF c s c.f0) then (bif (inF c n c.f4) then (IntKind.i64.wrap ((IntKind.i64.wrap (s * c.f4)) + n)) else (-1)) else (-1))
theorem k05_Op (c : S23) (s : Int) (n : Int) (W : World) : Calls Try.prog 54 #[.agg (encC c).toArray, .int .i64 s, .int .i64 n] W (fun e W' => e = .returned (.int .i64 (m05Op c s n)) ∧ Below W.heap.size W W') := by
 refine rf_enter (args := [.agg (encC c).toArray, .int .i64 s, .int .i64 n]) [] Try.func54 rfl (by simp) ?_
 refine rX 12 ?_
 refine qV [.agg (encC c).toArray, .int .i64 s, .int .i64 c.f0] (fun W_ hT_ hR_ => c05_in c s c.f0 _) ?_
 refine rZ 1 ?_
 refine qS 12 (inF c s c.f0) (fun h1 => ?_) (fun h1 => ?_)
 ·refine rZ 4 ?_
  refine qV [.agg (encC c).toArray, .int .i64 n, .int .i64 c.f4] (fun W_ hT_ hR_ => c05_in c n c.f4 _) ?_
  refine rZ 2 ?_
  refine qI (inF c n c.f4) (fun h2 => ?_) (fun h2 => ?_)
  ·refine rZ 10 ?_
   obtain ⟨m_, hq_, hm_⟩ := nm (m05Op c s n)
   unfold m05Op at hm_
   simp only [bT h1, bT h2] at hm_
   refine qR [.int .i64 m_] (fun W1_ hT_ hR_ hF_ => ?_) (h := by rewrite [← hm_]; kernel_rfl)
   rw [hq_, ← hm_]
   exact ⟨rfl, hT_.below⟩
  ·refine rZ 5 ?_
   obtain ⟨m_, hq_, hm_⟩ := nm (m05Op c s n)
   unfold m05Op at hm_
   simp only [bT h1, bF h2] at hm_
   refine qR [.int .i64 m_] (fun W1_ hT_ hR_ hF_ => ?_) (h := by rewrite [← hm_]; kernel_rfl)
   rw [hq_, ← hm_]
   exact ⟨rfl, hT_.below⟩
 ·refine rZ 13 ?_
  obtain ⟨m_, hq_, hm_⟩ := nm (m05Op c s n)
  unfold m05Op at hm_
  simp only [bF h1] at hm_
  refine qR [.int .i64 m_] (fun W1_ hT_ hR_ hF_ => ?_) (h := by rewrite [← hm_]; kernel_rfl)
  rw [hq_, ← hm_]
  exact ⟨rfl, hT_.below⟩
theorem m05Op_eq (c : S23) (s n : Int) : m05Op c s n = lOp c s n := by
 unfold m05Op lOp inF
 simp only [Bool.cond_decide]
 by_cases h : OkC c
 ·have hb := bnds h
  simp only [h, true_and]
  by_cases h1 : 0 ≤ s ∧ s < c.f0
  ·by_cases h2 : 0 ≤ n ∧ n < c.f4
   ·have hs := sc_le h1.1 h1.2 h.1.2 h.2.2.2.2.1 h.2.2.2.2.2
    rw [if_pos h1, if_pos h2, if_pos ⟨h1, h2⟩, w64 (n := s * c.f4) (by omega) (by omega), w64 (by omega) (by omega)]
   ·rw [if_pos h1, if_neg h2, if_neg (fun q => h2 q.2)]
  ·rw [if_neg h1, if_neg (fun q => h1 q.1)]
 ·simp only [h, false_and, if_false]
theorem c05_Op (c : S23) (s : Int) (n : Int) (W : World) : Calls Try.prog 54 #[.agg (encC c).toArray, .int .i64 s, .int .i64 n] W fun e w' => e = .returned (.int .i64 (lOp c s n)) ∧ Below W.heap.size W w' := by
 have h := k05_Op c s n W
 rw [m05Op_eq] at h
 exact h
def m07Is (b : RB) (n : Int) : Bool := (bif (decide (n ≥ 0)) then (decide (n < (b.calls.length : Int))) else false)
theorem k07_is (b : RB) (rb : RA) (n : Int) (W : World) (hW : BAt W b rb) : Calls Try.prog 52 #[.agg (encB b rb).toArray, .int .i64 n] W (fun e W' => e = .returned (.bool (m07Is b n)) ∧ Below W.heap.size W W') := by
 refine rf_enter (args := [.agg (encB b rb).toArray, .int .i64 n]) [bRep b rb] Try.func52 rfl (by intro r hr; obtain rfl := List.mem_singleton.mp hr; exact hW) ?_
 refine rX 10 ?_
 refine qS 7 (decide (n ≥ 0)) (fun h1 => ?_) (fun h1 => ?_)
 ·refine rZ 8 ?_
  obtain ⟨m_, hq_, hm_⟩ := nm (m07Is b n)
  unfold m07Is at hm_
  simp only [bT h1] at hm_
  refine qR [.bool m_] (fun W1_ hT_ hR_ hF_ => ?_) (h := by rewrite [← hm_]; kernel_rfl)
  rw [hq_, ← hm_]
  exact ⟨rfl, hT_.below⟩
 ·refine rZ 8 ?_
  obtain ⟨m_, hq_, hm_⟩ := nm (m07Is b n)
  unfold m07Is at hm_
  simp only [bF h1] at hm_
  refine qR [.bool m_] (fun W1_ hT_ hR_ hF_ => ?_) (h := by rewrite [← hm_]; kernel_rfl)
  rw [hq_, ← hm_]
  exact ⟨rfl, hT_.below⟩
theorem m07Is_eq (b : RB) (n : Int) : m07Is b n = isF b n := by
 unfold m07Is isF
 by_cases h : n ≥ 0 <;> simp [h]
theorem c07_is (b : RB) (r : RA) (n : Int) (W : World) (h : BAt W b r) : Calls Try.prog 52 #[.agg (encB b r).toArray, .int .i64 n] W fun e w' => e = .returned (.bool (isF b n)) ∧ Below W.heap.size W w' := by
 have q := k07_is b r n W h
 rw [m07Is_eq] at q
 exact q
def k07_find.l1.c (b : RB) (rb : RA) (n : Int) (x_ : Int × (Nat → Value)) : St := match x_ with | ⟨i, tv_⟩ => ⟨[some ⟨true, 35, (encB b rb).map .v⟩], tvl tv_ 22 [(1, .v (.int .i64 n)), (2, .ad 0 0), (5, .v (.int .i64 i))]⟩
def k07_find.l1.r (b : RB) (rb : RA) (n : Int) (x_ : Int × (Nat → Value)) : List PRep := match x_ with | ⟨i, tv_⟩ => [bRep b rb]
def k07_find.l1.i (b : RB) (rb : RA) (n : Int) (x_ : Int × (Nat → Value)) : Prop := match x_ with | ⟨i, tv_⟩ => 0 ≤ i ∧ i ≤ (b.ops.length : Int) ∧ pFind b n = fidx (b.ops.drop i.toNat) n i
theorem k07_find (b : RB) (rb : RA) (n : Int) (W : World) (hW : BAt W b rb) : Calls Try.prog 70 #[.agg (encB b rb).toArray, .int .i64 n] W (fun e W' => e = .returned (.int .i64 (pFind b n)) ∧ Below W.heap.size W W') := by
 refine rf_enter (args := [.agg (encB b rb).toArray, .int .i64 n]) [bRep b rb] Try.func70 rfl (by intro r hr; obtain rfl := List.mem_singleton.mp hr; exact hW) ?_
 refine rX 11 ?_
 refine rG [1, 2, 5] (fun tv1_ => ?_)
 refine qU (k07_find.l1.c b rb n) (k07_find.l1.r b rb n) (k07_find.l1.i b rb n) (fun x_ => ((b.ops.length : Int) - x_.1).toNat) (by kernel_rfl) ⟨0, tv1_⟩ ⟨by decide, Int.natCast_nonneg _, rfl⟩ (by kernel_rfl) (by simp [k07_find.l1.r]) ?_
 rintro ⟨i, tv2_⟩ ⟨hi1_, hi2_, hi3_⟩
 refine rZ 9 ?_
 refine qI (decide (i < (b.ops.length : Int))) (fun h3 => ?_) (fun h3 => ?_)
 ·refine rZ 8 ?_
  refine rK (p := ∃ ad, rb.a8 = some ad) (fun W_ hR_ => row_some (bget hR_ 0 rfl).m8 (by rw [flat_len opcE_len]; exact Nat.mul_pos (by have b0_ := oT h3; have p0_ := hW.i.small; have p1_ := hi1_; have p2_ := hi2_; omega) (by decide))) ?_
  rintro ⟨ad4_, had4_⟩
  refine qX (t := 32) (e := 120) (s := 5) (b := 40) (A := rb.a8) (n := b.ops.length) (c := rb.c8) (k := .i64) (i := i) ad4_ had4_ (by have b0_ := oT h3; have p0_ := hW.i.small; have p1_ := hi1_; have p2_ := hi2_; omega) (by have b0_ := oT h3; have p0_ := hW.i.small; have p1_ := hi1_; have p2_ := hi2_; omega) ?_
  refine rZ 1 ?_
  refine qL (t := 3) (p := .pointer (some ((ad4_.add (Int.toNat i * 5)).add 0))) (v := .int .i64 (b.ops.getD i.toNat z120).f0) [bRep b rb] (fun w_ hR_ => by rw [Addr.add_add]; exact row1' te_ok (sz := 5) (d := z120) rfl (by rw [← had4_]; exact (bget hR_ 0 rfl).m8) opcE_len (o := 0) (by decide) (by have b0_ := oT h3; have p0_ := hW.i.small; have p1_ := hi1_; have p2_ := hi2_; omega) (.int .i64 (b.ops.getD i.toNat z120).f0) (by kernel_rfl) rfl) ?_
  refine rZ 3 ?_
  refine qI ((b.ops.getD i.toNat z120).f0 == n) (fun h5 => ?_) (fun h5 => ?_)
  ·refine rZ 5 ?_
   have hm_ : pFind b n = i := hi3_.trans (fidx_hit hi1_ (oT h3) h5)
   refine qR [.int .i64 i] (fun W1_ hT_ hR_ hF_ => ?_)
   rw [hm_]
   exact ⟨rfl, hT_.below⟩
  ·refine rZ 7 ?_
   refine rG [1, 2, 5] (fun tv_ => ?_)
   exact qQ (Sf := k07_find.l1.c b rb n) (Rf := k07_find.l1.r b rb n) (I := k07_find.l1.i b rb n) (μ := (fun x_ => ((b.ops.length : Int) - x_.1).toNat)) ⟨(IntKind.i64.wrap (i + 1)), tv_⟩ (by kernel_rfl) ⟨⟨(wk_ hi1_ (oT h3) (by have := hW.i.small; omega)).1, (wk_ hi1_ (oT h3) (by have := hW.i.small; omega)).2.1, hi3_.trans (fidx_next hi1_ (oT h3) (by have := hW.i.small; omega) h5)⟩, (wk_ hi1_ (oT h3) (by have := hW.i.small; omega)).2.2⟩ (by kernel_rfl) (by simp [k07_find.l1.r])
 ·refine rZ 5 ?_
  have hm_ : pFind b n = (-1) := hi3_.trans (by rw [List.drop_of_length_le (by have := oF h3; omega)]; rfl)
  refine qR [.int .i64 (-1)] (fun W1_ hT_ hR_ hF_ => ?_)
  rw [hm_]
  exact ⟨rfl, hT_.below⟩
theorem c07_find (b : RB) (r : RA) (n : Int) (W : World) (h : BAt W b r) : Calls Try.prog 70 #[.agg (encB b r).toArray, .int .i64 n] W fun e w' => e = .returned (.int .i64 (pFind b n)) ∧ Below W.heap.size W w' := k07_find b r n W h
def k07_Carried.l1.c (b : RB) (rb : RA) (n : Int) (x_ : Int × (Nat → Value)) : St := match x_ with | ⟨i, tv_⟩ => ⟨[some ⟨true, 35, (encB b rb).map .v⟩], tvl tv_ 27 [(1, .v (.int .i64 n)), (2, .ad 0 0), (5, .v (.int .i64 i))]⟩
def k07_Carried.l1.r (b : RB) (rb : RA) (n : Int) (x_ : Int × (Nat → Value)) : List PRep := match x_ with | ⟨i, tv_⟩ => [bRep b rb]
def k07_Carried.l1.i (b : RB) (rb : RA) (n : Int) (x_ : Int × (Nat → Value)) : Prop := match x_ with | ⟨i, tv_⟩ => 0 ≤ i ∧ i ≤ (b.nodes.length : Int) ∧ fNd b.nodes n = fNd (b.nodes.drop i.toNat) n
theorem k07_Carried (b : RB) (rb : RA) (n : Int) (W : World) (hW : BAt W b rb) : Calls Try.prog 46 #[.agg (encB b rb).toArray, .int .i64 n] W (fun e W' => e = .returned (.int .i64 (carF b n)) ∧ Below W.heap.size W W') := by
 refine rf_enter (args := [.agg (encB b rb).toArray, .int .i64 n]) [bRep b rb] Try.func46 rfl (by intro r hr; obtain rfl := List.mem_singleton.mp hr; exact hW) ?_
 refine rX 11 ?_
 refine rG [1, 2, 5] (fun tv1_ => ?_)
 refine qU (k07_Carried.l1.c b rb n) (k07_Carried.l1.r b rb n) (k07_Carried.l1.i b rb n) (fun x_ => ((b.nodes.length : Int) - x_.1).toNat) (by kernel_rfl) ⟨0, tv1_⟩ ⟨by decide, Int.natCast_nonneg _, rfl⟩ (by kernel_rfl) (by simp [k07_Carried.l1.r]) ?_
 rintro ⟨i, tv2_⟩ ⟨hi1_, hi2_, hi3_⟩
 refine rZ 9 ?_
 refine qI (decide (i < (b.nodes.length : Int))) (fun h3 => ?_) (fun h3 => ?_)
 ·refine rZ 8 ?_
  refine rK (p := ∃ ad, rb.a9 = some ad) (fun W_ hR_ => row_some (bget hR_ 0 rfl).m9 (by rw [flat_len ndE_len]; exact Nat.mul_pos (by have b0_ := oT h3; have p0_ := hW.i.small; have p1_ := hi1_; have p2_ := hi2_; omega) (by decide))) ?_
  rintro ⟨ad4_, had4_⟩
  refine qX (t := 33) (e := 125) (s := 2) (b := 16) (A := rb.a9) (n := b.nodes.length) (c := rb.c9) (k := .i64) (i := i) ad4_ had4_ (by have b0_ := oT h3; have p0_ := hW.i.small; have p1_ := hi1_; have p2_ := hi2_; omega) (by have b0_ := oT h3; have p0_ := hW.i.small; have p1_ := hi1_; have p2_ := hi2_; omega) ?_
  refine rZ 1 ?_
  refine qL (t := 3) (p := .pointer (some ((ad4_.add (Int.toNat i * 2)).add 0))) (v := .int .i64 (b.nodes.getD i.toNat z125).f0) [bRep b rb] (fun w_ hR_ => by rw [Addr.add_add]; exact row1' te_ok (sz := 2) (d := z125) rfl (by rw [← had4_]; exact (bget hR_ 0 rfl).m9) ndE_len (o := 0) (by decide) (by have b0_ := oT h3; have p0_ := hW.i.small; have p1_ := hi1_; have p2_ := hi2_; omega) (.int .i64 (b.nodes.getD i.toNat z125).f0) (by kernel_rfl) rfl) ?_
  refine rZ 3 ?_
  refine qI ((b.nodes.getD i.toNat z125).f0 == n) (fun h5 => ?_) (fun h5 => ?_)
  ·refine rZ 5 ?_
   refine qX (t := 33) (e := 125) (s := 2) (b := 16) (A := rb.a9) (n := b.nodes.length) (c := rb.c9) (k := .i64) (i := i) ad4_ had4_ (by have b0_ := oT h3; have p0_ := hW.i.small; have p1_ := hi1_; have p2_ := hi2_; omega) (by have b0_ := oT h3; have p0_ := hW.i.small; have p1_ := hi1_; have p2_ := hi2_; omega) ?_
   refine rZ 1 ?_
   refine qL (t := 3) (p := .pointer (some ((ad4_.add (Int.toNat i * 2)).add 1))) (v := .int .i64 (b.nodes.getD i.toNat z125).f1) [bRep b rb] (fun w_ hR_ => by rw [Addr.add_add]; exact row1' te_ok (sz := 2) (d := z125) rfl (by rw [← had4_]; exact (bget hR_ 0 rfl).m9) ndE_len (o := 1) (by decide) (by have b0_ := oT h3; have p0_ := hW.i.small; have p1_ := hi1_; have p2_ := hi2_; omega) (.int .i64 (b.nodes.getD i.toNat z125).f1) (by kernel_rfl) rfl) ?_
   refine rZ 2 ?_
   have hm_ : carF b n = (b.nodes.getD i.toNat z125).f1 := (show carF b n = ndR (fNd (b.nodes.drop i.toNat) n) from congrArg ndR hi3_).trans (fNd_hit hi1_ (oT h3) h5)
   refine qR [.int .i64 (b.nodes.getD i.toNat z125).f1] (fun W1_ hT_ hR_ hF_ => ?_)
   rw [hm_]
   exact ⟨rfl, hT_.below⟩
  ·refine rZ 7 ?_
   refine rG [1, 2, 5] (fun tv_ => ?_)
   exact qQ (Sf := k07_Carried.l1.c b rb n) (Rf := k07_Carried.l1.r b rb n) (I := k07_Carried.l1.i b rb n) (μ := (fun x_ => ((b.nodes.length : Int) - x_.1).toNat)) ⟨(IntKind.i64.wrap (i + 1)), tv_⟩ (by kernel_rfl) ⟨⟨(wk_ hi1_ (oT h3) (by have := hW.i.small; omega)).1, (wk_ hi1_ (oT h3) (by have := hW.i.small; omega)).2.1, hi3_.trans (fNd_next hi1_ (oT h3) (by have := hW.i.small; omega) h5)⟩, (wk_ hi1_ (oT h3) (by have := hW.i.small; omega)).2.2⟩ (by kernel_rfl) (by simp [k07_Carried.l1.r])
 ·refine rZ 5 ?_
  have hm_ : carF b n = (-1) := (show carF b n = ndR (fNd (b.nodes.drop i.toNat) n) from congrArg ndR hi3_).trans (by rw [List.drop_of_length_le (by have := oF h3; omega)]; rfl)
  refine qR [.int .i64 (-1)] (fun W1_ hT_ hR_ hF_ => ?_)
  rw [hm_]
  exact ⟨rfl, hT_.below⟩
theorem c07_Carried (b : RB) (r : RA) (n : Int) (W : World) (h : BAt W b r) : Calls Try.prog 46 #[.agg (encB b r).toArray, .int .i64 n] W fun e w' => e = .returned (.int .i64 (carF b n)) ∧ Below W.heap.size W w' := k07_Carried b r n W h
def m07Call (b : RB) (n : Int) : S48 × Int := (bif (decide ((pFind b n) < 0)) then (⟨0, 0, 0, 0⟩, 4) else ((b.ops.getD (pFind b n).toNat z120).f1, 0))
theorem k07_Call (b : RB) (rb : RA) (n : Int) (W : World) (hW : BAt W b rb) : Calls Try.prog 61 #[.agg (encB b rb).toArray, .int .i64 n] W (fun e W' => e = .returned (.tuple #[.agg (encCall (m07Call b n).1).toArray, .int .i64 (m07Call b n).2]) ∧ Below W.heap.size W W') := by
 refine rf_enter (args := [.agg (encB b rb).toArray, .int .i64 n]) [bRep b rb] Try.func61 rfl (by intro r hr; obtain rfl := List.mem_singleton.mp hr; exact hW) ?_
 refine rX 10 ?_
 refine qV [.agg (encB b rb).toArray, .int .i64 n] (fun W_ hT_ hR_ => c07_find b rb n _ (bget hR_ 0 rfl)) ?_
 refine rZ 8 ?_
 refine qI (decide ((pFind b n) < 0)) (fun h1 => ?_) (fun h1 => ?_)
 ·refine rZ 6 ?_
  obtain ⟨m_, hq_, hm_⟩ := nm (m07Call b n)
  unfold m07Call at hm_
  simp only [bT h1] at hm_
  refine qR [.agg (encCall m_.1).toArray, .int .i64 m_.2] (fun W1_ hT_ hR_ hF_ => ?_) (h := by rewrite [← hm_]; kernel_rfl)
  rw [hq_, ← hm_]
  exact ⟨rfl, hT_.below⟩
 ·refine rZ 6 ?_
  refine rK (p := ∃ ad, rb.a8 = some ad) (fun W_ hR_ => row_some (bget hR_ 0 rfl).m8 (by rw [flat_len opcE_len]; exact Nat.mul_pos (by have b0_ := oF h1; have p0_ := pFind_lt hW.i n; omega) (by decide))) ?_
  rintro ⟨ad2_, had2_⟩
  refine qX (t := 32) (e := 120) (s := 5) (b := 40) (A := rb.a8) (n := b.ops.length) (c := rb.c8) (k := .i64) (i := (pFind b n)) ad2_ had2_ (by have b0_ := oF h1; have p0_ := pFind_lt hW.i n; omega) (by have b0_ := oF h1; have p0_ := pFind_lt hW.i n; omega) ?_
  refine rZ 1 ?_
  refine qL (t := 48) (p := .pointer (some ((ad2_.add (Int.toNat (pFind b n) * 5)).add 1))) (v := .agg ([.int .i64 (b.ops.getD (pFind b n).toNat z120).f1.f0, .int .u64 (b.ops.getD (pFind b n).toNat z120).f1.f1, .int .u64 (b.ops.getD (pFind b n).toNat z120).f1.f2, .int .i64 (b.ops.getD (pFind b n).toNat z120).f1.f3]).toArray) [bRep b rb] (fun w_ hR_ => by rw [Addr.add_add]; exact rowA' te_ok (sz := 5) (d := z120) rfl (by rw [← had2_]; exact (bget hR_ 0 rfl).m8) opcE_len (o := 1) (by decide) (by have b0_ := oF h1; have p0_ := pFind_lt hW.i n; omega) [.int .i64 (b.ops.getD (pFind b n).toNat z120).f1.f0, .int .u64 (b.ops.getD (pFind b n).toNat z120).f1.f1, .int .u64 (b.ops.getD (pFind b n).toNat z120).f1.f2, .int .i64 (b.ops.getD (pFind b n).toNat z120).f1.f3] (by kernel_rfl) (by kernel_rfl) rfl) ?_
  refine rZ 3 ?_
  obtain ⟨m_, hq_, hm_⟩ := nm (m07Call b n)
  unfold m07Call at hm_
  simp only [bF h1] at hm_
  refine qR [.agg (encCall m_.1).toArray, .int .i64 m_.2] (fun W1_ hT_ hR_ hF_ => ?_) (h := by rewrite [← hm_]; kernel_rfl)
  rw [hq_, ← hm_]
  exact ⟨rfl, hT_.below⟩
theorem m07Call_eq {b : RB} (hi : Inv b) (n : Int) : m07Call b n = (callF b n, callE b n) := by
 unfold m07Call callF callE
 rcases pFind_cases b n with ⟨h1, h2⟩ | ⟨q, h1, h2, h3⟩
 ·rw [h1, h2]; rfl
 ·rw [h2, h3, decide_eq_false (by omega)]; rfl
theorem c07_Call (b : RB) (r : RA) (n : Int) (W : World) (h : BAt W b r) : Calls Try.prog 61 #[.agg (encB b r).toArray, .int .i64 n] W fun e w' => e = .returned (.tuple #[.agg (encCall (callF b n)).toArray, .int .i64 (callE b n)]) ∧ Below W.heap.size W w' := by
 have q := k07_Call b r n W h
 rw [m07Call_eq h.i] at q
 exact q
def k07_Key.T1 : Bool × List (List Nat × List Nat) := (true, [([], []), ([], []), ([], []), ([1, 2], [1, 2]), ([0, 3, 3], [0, 3]), ([4], [4]), ([5], [5]), ([5], [5]), ([], []), ([8, 6, 4, 0, 1, 2, 3, 4, 5, 6, 8], [6, 8]), ([7, 9, 0, 1, 2, 3, 4, 5, 6, 7, 8, 9], [7])])
def k07_Key.c1 (b : RB) (rb : RA) (n : Int) (x_ : Unit) : St := ⟨[some ⟨true, 35, (encB b rb).map .v⟩, some ⟨true, 48, [.v (.int .i64 (callF b (carF b n)).f0), .v (.int .u64 (callF b (carF b n)).f1), .v (.int .u64 (callF b (carF b n)).f2), .v (.int .i64 (callF b (carF b n)).f3)]⟩], [.v (.agg (encB b rb).toArray), .v (.int .i64 n), .ad 0 0, .v (undef), .v (.int .u64 0), .ad 1 0, .v (.int .i64 (callE b (carF b n))), .v (.tuple #[.agg #[.int .i64 (callF b (carF b n)).f0, .int .u64 (callF b (carF b n)).f1, .int .u64 (callF b (carF b n)).f2, .int .i64 (callF b (carF b n)).f3], .int .i64 (callE b (carF b n))]), .v (.agg (encB b rb).toArray), .v (.agg (encB b rb).toArray), .v (.int .i64 n), .v (.int .i64 (carF b n)), .v (.tuple #[.agg #[.int .i64 (callF b (carF b n)).f0, .int .u64 (callF b (carF b n)).f1, .int .u64 (callF b (carF b n)).f2, .int .i64 (callF b (carF b n)).f3], .int .i64 (callE b (carF b n))]), .v (.agg #[.int .i64 (callF b (carF b n)).f0, .int .u64 (callF b (carF b n)).f1, .int .u64 (callF b (carF b n)).f2, .int .i64 (callF b (carF b n)).f3]), .v (.int .i64 (callE b (carF b n))), .v (undef), .v (undef)]⟩
def k07_Key.r1 (b : RB) (rb : RA) (n : Int) (x_ : Unit) : List PRep := [bRep b rb]
def m07Key (b : RB) (n : Int) : Int := (callF b (carF b n)).f1
theorem k07_Key (b : RB) (rb : RA) (n : Int) (W : World) (hW : BAt W b rb) : Calls Try.prog 58 #[.agg (encB b rb).toArray, .int .i64 n] W (fun e W' => e = .returned (.int .u64 (m07Key b n)) ∧ Below W.heap.size W W') := by
 refine rf_enter (args := [.agg (encB b rb).toArray, .int .i64 n]) [bRep b rb] Try.func58 rfl (by intro r hr; obtain rfl := List.mem_singleton.mp hr; exact hW) ?_
 refine rX 6 ?_
 refine qK (k07_Key.c1 b rb n) (k07_Key.r1 b rb n) (fun _ => True) ?_ ?_
 ·refine qD k07_Key.T1 [0, 0, 0, 6, 15, 31, 63, 63, 0, 383, 1023] [9] [0] [] ?_
  refine rO [0, 1, 2] ?_
  refine rZ 3 ?_
  refine qF 3 8 ?_ ?_
  ·refine rO [] ?_
   refine qV [.agg (encB b rb).toArray, .int .i64 n] (fun W_ hT_ hR_ => c07_Carried b rb n _ (bget hR_ 0 rfl)) ?_
   refine qF 4 8 ?_ ?_
   ·refine rO [5, 6, 7, 8, 9, 10] ?_
    refine qV [.agg (encB b rb).toArray, .int .i64 (carF b n)] (fun W_ hT_ hR_ => c07_Call b rb (carF b n) _ (bget hR_ 0 rfl)) ?_
    refine rZ 9 ?_
    exact qJ (k07_Key.c1 b rb n) (k07_Key.r1 b rb n) (fun _ => True) () trivial (by simp [k07_Key.r1])
   ·refine rO [4, 5, 6, 7, 9, 10] ?_
    refine rZ 2 ?_
    refine qV [.agg (encB b rb).toArray, .int .i64 (carF b n)] (fun W_ hT_ hR_ => c07_Call b rb (carF b n) _ (bget hR_ 0 rfl)) ?_
    refine rZ 7 ?_
    exact qJ (k07_Key.c1 b rb n) (k07_Key.r1 b rb n) (fun _ => True) () trivial (by simp [k07_Key.r1])
  ·refine rO [3, 4, 5, 6, 7, 9, 10] ?_
   refine rZ 2 ?_
   refine qV [.agg (encB b rb).toArray, .int .i64 n] (fun W_ hT_ hR_ => c07_Carried b rb n _ (bget hR_ 0 rfl)) ?_
   refine rZ 1 ?_
   refine qV [.agg (encB b rb).toArray, .int .i64 (carF b n)] (fun W_ hT_ hR_ => c07_Call b rb (carF b n) _ (bget hR_ 0 rfl)) ?_
   refine rZ 7 ?_
   exact qJ (k07_Key.c1 b rb n) (k07_Key.r1 b rb n) (fun _ => True) () trivial (by simp [k07_Key.r1])
 ·rintro ⟨⟩ -
  refine rZ 6 ?_
  obtain ⟨m_, hq_, hm_⟩ := nm (m07Key b n)
  unfold m07Key at hm_
  refine qR [.int .u64 m_] (fun W1_ hT_ hR_ hF_ => ?_) (h := by rewrite [← hm_]; kernel_rfl)
  rw [hq_, ← hm_]
  exact ⟨rfl, hT_.below⟩
theorem c07_Key (b : RB) (r : RA) (n : Int) (W : World) (h : BAt W b r) : Calls Try.prog 58 #[.agg (encB b r).toArray, .int .i64 n] W fun e w' => e = .returned (.int .u64 (keyF b n)) ∧ Below W.heap.size W w' := k07_Key b r n W h
end Go.Proofs.Ytbhakljebcmocaa.PBoundKeeps
end
section
namespace Go.Proofs.Ytbhakljebcmocaa.PBoundKeeps
open Go.RowKit Go.Proofs.YtbhakljebcmocaaW.PrintWords Go.Proofs.YtbhakljebcmocaaW.PrintLast Go.Proofs.YtbhakljebcmocaaW.PrintMore
set_option linter.unusedVariables false
set_option maxHeartbeats 1000000
set_option maxRecDepth 100000
set_option linter.unusedSimpArgs false
def k06_Load.T4 : Bool × List (List Nat × List Nat) := (true, [([], []), ([], []), ([1], [1]), ([], []), ([2, 3], [2, 3]), ([4], [4]), ([0, 0], [0]), ([5, 6, 0, 1, 2, 3, 4, 5, 6], [5])])
def m06Load (w : RM) (i : Int) : RM × Int := (bif (decide (i < 0)) then (w, 0) else (bif (decide (i ≥ (w.ws.length : Int))) then (w, 0) else ((RM.mk w.ws (IntKind.i64.wrap (w.st + 1))), (w.ws.getD i.toNat 0))))
theorem k06_Load (w : RM) (rw : MX) (i : Int) (W : World) (hW : MAt W w rw) : Calls Try.prog 69 #[.agg (encM w rw).toArray, .int .i64 i] W (fun e W' => ∃ r0 : MX, e = .returned (.tuple #[.agg (encM ((m06Load w i).1) r0).toArray, .int .u64 (m06Load w i).2]) ∧ MAt W' (m06Load w i).1 r0 ∧ FreshIn [mRep w rw] W (mRep (m06Load w i).1 r0) ∧ Below W.heap.size W W') := by
 refine rf_enter (args := [.agg (encM w rw).toArray, .int .i64 i]) [mRep w rw] Try.func69 rfl (by intro r hr; obtain rfl := List.mem_singleton.mp hr; exact hW) ?_
 refine rX 12 ?_
 refine qS 8 (decide (i < 0)) (fun h1 => ?_) (fun h1 => ?_)
 ·refine rZ 14 ?_
  obtain ⟨m_, hq_, hm_⟩ := nm (m06Load w i)
  unfold m06Load at hm_
  simp only [bT h1] at hm_
  refine qR [.agg (encM m_.1 rw).toArray, .int .u64 m_.2] (fun W1_ hT_ hR_ hF_ => ?_) (h := by rewrite [← hm_]; kernel_rfl)
  rw [hq_, ← hm_]
  exact ⟨_, rfl, (mget hR_ 0 rfl), (fun k_ => (fun h_ => hF_ _ (mG 0 rfl) k_ h_)), hT_.below⟩
 ·refine rZ 7 ?_
  refine qI (decide (i ≥ (w.ws.length : Int))) (fun h2 => ?_) (fun h2 => ?_)
  ·refine rZ 6 ?_
   obtain ⟨m_, hq_, hm_⟩ := nm (m06Load w i)
   unfold m06Load at hm_
   simp only [bF h1, bT h2] at hm_
   refine qR [.agg (encM m_.1 rw).toArray, .int .u64 m_.2] (fun W1_ hT_ hR_ hF_ => ?_) (h := by rewrite [← hm_]; kernel_rfl)
   rw [hq_, ← hm_]
   exact ⟨_, rfl, (mget hR_ 0 rfl), (fun k_ => (fun h_ => hF_ _ (mG 0 rfl) k_ h_)), hT_.below⟩
  ·refine rZ 10 ?_
   refine qD k06_Load.T4 [0, 0, 2, 0, 14, 30, 1, 127] [] [0] [] ?_
   refine rO [0, 1, 2, 3, 4, 5, 6, 7] ?_
   refine rZ 4 ?_
   refine rK (p := ∃ ad, rw.A = some ad) (fun W_ hR_ => row_some (mget hR_ 0 rfl).m (by rw [flat_len uE_len]; exact Nat.mul_pos (by have b0_ := oF h1; have b1_ := oF h2; omega) (by decide))) ?_
   rintro ⟨ad3_, had3_⟩
   refine qX (t := 29) (e := 46) (s := 1) (b := 8) (A := rw.A) (n := w.ws.length) (c := rw.C) (k := .i64) (i := i) ad3_ had3_ (by have b0_ := oF h1; have b1_ := oF h2; omega) (by have b0_ := oF h1; have b1_ := oF h2; omega) ?_
   refine qL (t := 46) (p := .pointer (some (ad3_.add (Int.toNat i * 1)))) (v := .int .u64 (w.ws.getD i.toNat 0)) [mRep w rw] (fun w_ hR_ => by exact row1' te_ok (sz := 1) (d := 0) rfl (by rw [← had3_]; exact (mget hR_ 0 rfl).m) uE_len (o := 0) (by decide) (by have b0_ := oF h1; have b1_ := oF h2; omega) (.int .u64 (w.ws.getD i.toNat 0)) (by kernel_rfl) (Nat.add_zero _).symm) ?_
   refine rZ 4 ?_
   obtain ⟨m_, hq_, hm_⟩ := nm (m06Load w i)
   unfold m06Load at hm_
   simp only [bF h1, bF h2] at hm_
   refine qR [.agg (encM m_.1 (MX.mk rw.A rw.C)).toArray, .int .u64 m_.2] (fun W1_ hT_ hR_ hF_ => ?_) (h := by rewrite [← hm_]; kernel_rfl)
   rw [hq_, ← hm_]
   exact ⟨_, rfl, ⟨(mget hR_ 0 rfl).m, (mget hR_ 0 rfl).l, (mget hR_ 0 rfl).s⟩, (fun k_ => (fun h_ => hF_ _ (mG 0 rfl) k_ h_)), hT_.below⟩
def m06Store (w : RM) (i : Int) (v : Int) : RM := (bif (decide (i < 0)) then w else (bif (decide (i ≥ (w.ws.length : Int))) then w else (RM.mk (w.ws.set i.toNat v) (IntKind.i64.wrap (w.st + 1)))))
theorem k06_Store (w : RM) (rw : MX) (i : Int) (v : Int) (W : World) (hW : MAt W w rw) : Calls Try.prog 67 #[.agg (encM w rw).toArray, .int .i64 i, .int .u64 v] W (fun e W' => ∃ r0 : MX, e = .returned (.agg (encM (m06Store w i v) r0).toArray) ∧ MAt W' (m06Store w i v) r0 ∧ FreshIn [mRep w rw] W (mRep (m06Store w i v) r0) ∧ Below W.heap.size W W') := by
 refine rf_enter (args := [.agg (encM w rw).toArray, .int .i64 i, .int .u64 v]) [mRep w rw] Try.func67 rfl (by intro r hr; obtain rfl := List.mem_singleton.mp hr; exact hW) ?_
 refine rX 11 ?_
 refine qS 10 (decide (i < 0)) (fun h1 => ?_) (fun h1 => ?_)
 ·refine rZ 13 ?_
  obtain ⟨m_, hq_, hm_⟩ := nm (m06Store w i v)
  unfold m06Store at hm_
  simp only [bT h1] at hm_
  refine qR [.agg (encM m_ rw).toArray] (fun W1_ hT_ hR_ hF_ => ?_) (h := by rewrite [← hm_]; kernel_rfl)
  rw [hq_, ← hm_]
  exact ⟨_, rfl, (mget hR_ 0 rfl), (fun k_ => (fun h_ => hF_ _ (mG 0 rfl) k_ h_)), hT_.below⟩
 ·refine rZ 7 ?_
  refine qI (decide (i ≥ (w.ws.length : Int))) (fun h2 => ?_) (fun h2 => ?_)
  ·refine rZ 5 ?_
   obtain ⟨m_, hq_, hm_⟩ := nm (m06Store w i v)
   unfold m06Store at hm_
   simp only [bF h1, bT h2] at hm_
   refine qR [.agg (encM m_ rw).toArray] (fun W1_ hT_ hR_ hF_ => ?_) (h := by rewrite [← hm_]; kernel_rfl)
   rw [hq_, ← hm_]
   exact ⟨_, rfl, (mget hR_ 0 rfl), (fun k_ => (fun h_ => hF_ _ (mG 0 rfl) k_ h_)), hT_.below⟩
  ·refine rZ 6 ?_
   refine rK (p := w.ws.length ≤ 1000000) (fun W_ hR_ => (mget hR_ 0 rfl).s) (fun hs3_ => ?_)
   refine qA (t := 29) (e := 46) (size := 1) (by_ := 8) (i := 2) (n := 0) (c := 0) (x := .v (.slice rw.A w.ws.length rw.C)) (enc := uE) (sp := []) true [] w.ws w.ws uE_len uE_one rfl (by rfl) (Nat.le_refl _) (Nat.zero_le _) (by simp only [List.length_nil]; omega) rfl (fun γ_ W_ hk_ hB_ => by have hR_ : RepAt _ W_ := hB_.rep; exact news_row (mget hR_ 0 rfl).m (row_none (mget hR_ 0 rfl).m uE_len (by decide))) (fun c3_ sp3_ hall3_ hle3_ hmx3_ => ?_)
   refine rZ 7 ?_
   refine qY (t := 29) (e := 46) (s := 1) (b := 8) (j := 3) (n := w.ws.length) (c := c3_) (k := .i64) (i := i) (by have b0_ := oF h1; have b1_ := oF h2; omega) (by have b0_ := oF h1; have b1_ := oF h2; omega) ?_
   refine qW (t := 46) (k := 1) (j := 3) (of := (Int.toNat i * 1)) (e := 46) (ag := false) (x := .v (.int .u64 v)) (cs := (List.flatMap uE w.ws ++ sp3_).map .v) true ((List.flatMap uE (w.ws.set i.toNat v) ++ sp3_).map .v) (ownIn' uE_len (o := 0) (k := 1) (by decide) (by (try simp only [List.length_set]); have b0_ := oF h1; have b1_ := oF h2; omega) (Nat.add_zero _).symm) (ownPut' uE_len (o := 0) (k := 1) (d := 0) ([.int .u64 v]) (by kernel_rfl) (by decide) (by (try simp only [List.length_set]); have b0_ := oF h1; have b1_ := oF h2; omega) v (by kernel_rfl) rfl (Nat.add_zero _).symm (by kernel_rfl)) ?_
   refine qP 21 (.sl 3 (w.ws.set i.toNat v).length c3_) (by rw [List.length_set]) ?_
   refine qP 7 (.sl 3 (w.ws.set i.toNat v).length c3_) (by rw [List.length_set]) ?_
   refine rZ 7 ?_
   refine qG 3 [] 46 (List.flatMap uE (w.ws.set i.toNat v) ++ sp3_) (fun g4_ => ?_)
   refine rZ 3 ?_
   obtain ⟨m_, hq_, hm_⟩ := nm (m06Store w i v)
   unfold m06Store at hm_
   simp only [bF h1, bF h2] at hm_
   refine qR [.agg (encM m_ (MX.mk (some ⟨g4_, 0, none⟩) c3_)).toArray] (fun W1_ hT_ hR_ hF_ => ?_) (h := by rewrite [← hm_]; kernel_rfl)
   rw [hq_, ← hm_]
   exact ⟨_, rfl, ⟨(row_blk (hR_.get 0 rfl)), (by rw [List.length_set]; exact hle3_), (by rw [List.length_set]; exact hs3_)⟩, (fun k_ => (fun h_ => hF_ _ (mG 0 rfl) k_ (rowBl_blk h_))), hT_.below⟩
def m06Swap (w : RM) (i : Int) (o : Int) (v : Int) : RM × Bool := (bif (decide (i < 0)) then (w, false) else (bif (decide (i ≥ (w.ws.length : Int))) then (w, false) else (bif ((w.ws.getD i.toNat 0) != o) then ((RM.mk w.ws (IntKind.i64.wrap (w.st + 1))), false) else ((m06Store w i v), true))))
theorem k06_Swap (w : RM) (rw : MX) (i : Int) (o : Int) (v : Int) (W : World) (hW : MAt W w rw) : Calls Try.prog 100 #[.agg (encM w rw).toArray, .int .i64 i, .int .u64 o, .int .u64 v] W (fun e W' => ∃ r0 : MX, e = .returned (.tuple #[.agg (encM ((m06Swap w i o v).1) r0).toArray, .bool (m06Swap w i o v).2]) ∧ MAt W' (m06Swap w i o v).1 r0 ∧ FreshIn [mRep w rw] W (mRep (m06Swap w i o v).1 r0) ∧ Below W.heap.size W W') := by
 refine rf_enter (args := [.agg (encM w rw).toArray, .int .i64 i, .int .u64 o, .int .u64 v]) [mRep w rw] Try.func100 rfl (by intro r hr; obtain rfl := List.mem_singleton.mp hr; exact hW) ?_
 refine rX 12 ?_
 refine qS 12 (decide (i < 0)) (fun h1 => ?_) (fun h1 => ?_)
 ·refine rZ 14 ?_
  obtain ⟨m_, hq_, hm_⟩ := nm (m06Swap w i o v)
  unfold m06Swap at hm_
  simp only [bT h1] at hm_
  refine qR [.agg (encM m_.1 rw).toArray, .bool m_.2] (fun W1_ hT_ hR_ hF_ => ?_) (h := by rewrite [← hm_]; kernel_rfl)
  rw [hq_, ← hm_]
  exact ⟨_, rfl, (mget hR_ 0 rfl), (fun k_ => (fun h_ => hF_ _ (mG 0 rfl) k_ h_)), hT_.below⟩
 ·refine rZ 7 ?_
  refine qI (decide (i ≥ (w.ws.length : Int))) (fun h2 => ?_) (fun h2 => ?_)
  ·refine rZ 6 ?_
   obtain ⟨m_, hq_, hm_⟩ := nm (m06Swap w i o v)
   unfold m06Swap at hm_
   simp only [bF h1, bT h2] at hm_
   refine qR [.agg (encM m_.1 rw).toArray, .bool m_.2] (fun W1_ hT_ hR_ hF_ => ?_) (h := by rewrite [← hm_]; kernel_rfl)
   rw [hq_, ← hm_]
   exact ⟨_, rfl, (mget hR_ 0 rfl), (fun k_ => (fun h_ => hF_ _ (mG 0 rfl) k_ h_)), hT_.below⟩
  ·refine rZ 7 ?_
   refine rK (p := ∃ ad, rw.A = some ad) (fun W_ hR_ => row_some (mget hR_ 0 rfl).m (by rw [flat_len uE_len]; exact Nat.mul_pos (by have b0_ := oF h1; have b1_ := oF h2; omega) (by decide))) ?_
   rintro ⟨ad3_, had3_⟩
   refine qX (t := 29) (e := 46) (s := 1) (b := 8) (A := rw.A) (n := w.ws.length) (c := rw.C) (k := .i64) (i := i) ad3_ had3_ (by have b0_ := oF h1; have b1_ := oF h2; omega) (by have b0_ := oF h1; have b1_ := oF h2; omega) ?_
   refine qL (t := 46) (p := .pointer (some (ad3_.add (Int.toNat i * 1)))) (v := .int .u64 (w.ws.getD i.toNat 0)) [mRep w rw] (fun w_ hR_ => by exact row1' te_ok (sz := 1) (d := 0) rfl (by rw [← had3_]; exact (mget hR_ 0 rfl).m) uE_len (o := 0) (by decide) (by have b0_ := oF h1; have b1_ := oF h2; omega) (.int .u64 (w.ws.getD i.toNat 0)) (by kernel_rfl) (Nat.add_zero _).symm) ?_
   refine rZ 3 ?_
   refine qI ((w.ws.getD i.toNat 0) != o) (fun h4 => ?_) (fun h4 => ?_)
   ·refine rZ 14 ?_
    obtain ⟨m_, hq_, hm_⟩ := nm (m06Swap w i o v)
    unfold m06Swap at hm_
    simp only [bF h1, bF h2, bT h4] at hm_
    refine qR [.agg (encM m_.1 (MX.mk rw.A rw.C)).toArray, .bool m_.2] (fun W1_ hT_ hR_ hF_ => ?_) (h := by rewrite [← hm_]; kernel_rfl)
    rw [hq_, ← hm_]
    exact ⟨_, rfl, ⟨(mget hR_ 0 rfl).m, (mget hR_ 0 rfl).l, (mget hR_ 0 rfl).s⟩, (fun k_ => (fun h_ => hF_ _ (mG 0 rfl) k_ h_)), hT_.below⟩
   ·refine rZ 6 ?_
    refine qC [.agg (encM w rw).toArray, .int .i64 i, .int .u64 v] fun W_ hT_ hR_ => (k06_Store _ _ _ _ _ (mget hR_ 0 rfl)).mono ?_
    rintro e_ W1_ ⟨rx5_, rfl, hw5_, hf5_, hb_⟩
    refine ⟨_, [mRep (m06Store w i v) rx5_], rfl, hb_, (NewOk.cons hw5_ (hf5_.one (fun k_ => (fun h_ => ⟨_, mG 0 rfl, h_⟩))) NewOk.nil), ?_⟩
    refine rZ 3 ?_
    obtain ⟨m_, hq_, hm_⟩ := nm (m06Swap w i o v)
    unfold m06Swap at hm_
    simp only [bF h1, bF h2, bF h4] at hm_
    refine qR [.agg (encM m_.1 rx5_).toArray, .bool m_.2] (fun W1_ hT_ hR_ hF_ => ?_) (h := by rewrite [← hm_]; kernel_rfl)
    rw [hq_, ← hm_]
    exact ⟨_, rfl, (mget hR_ 0 rfl), (fun k_ => (fun h_ => hF_ _ (mG 0 rfl) k_ h_)), hT_.below⟩
end Go.Proofs.Ytbhakljebcmocaa.PBoundKeeps
end
section
namespace Go.Proofs.Ytbhakljebcmocaa.PBoundKeeps
open Go.RowKit Go.Proofs.YtbhakljebcmocaaW.PrintWords Go.Proofs.YtbhakljebcmocaaW.PrintLast Go.Proofs.YtbhakljebcmocaaW.PrintMore
set_option linter.unusedVariables false
set_option maxHeartbeats 1000000
set_option maxRecDepth 100000
set_option linter.unusedSimpArgs false
def m08Load (w : RW) (i : Int) : RW × Int := ((RW.mk w.c ((m06Load (RM.mk w.ws w.st) i).1).ws ((m06Load (RM.mk w.ws w.st) i).1).st w.b), (m06Load (RM.mk w.ws w.st) i).2)
theorem k08_load (w : RW) (rw : RX) (i : Int) (W : World) (hW : WAt W w rw) : Calls Try.prog 55 #[.agg (encW w rw).toArray, .int .i64 i] W (fun e W' => ∃ r0 : RX, e = .returned (.tuple #[.agg (encW ((m08Load w i).1) r0).toArray, .int .u64 (m08Load w i).2]) ∧ WAt W' (m08Load w i).1 r0 ∧ FreshIn [wRep w rw] W (wRep (m08Load w i).1 r0) ∧ Below W.heap.size W W') := by
 refine rf_enter (args := [.agg (encW w rw).toArray, .int .i64 i]) [wRep w rw] Try.func55 rfl (by intro r hr; obtain rfl := List.mem_singleton.mp hr; exact hW) ?_
 refine rX 11 ?_
 refine qC [.agg (encM (RM.mk w.ws w.st) (MX.mk rw.A rw.C)).toArray, .int .i64 i] fun W_ hT_ hR_ => (k06_Load (RM.mk w.ws w.st) (MX.mk rw.A rw.C) _ _ ⟨(wget hR_ 0 rfl).m, (wget hR_ 0 rfl).l, (wget hR_ 0 rfl).s⟩).mono ?_
 rintro e_ W1_ ⟨rx1_, rfl, hw1_, hf1_, hb_⟩
 refine ⟨_, [mRep ((m06Load (RM.mk w.ws w.st) i).1) rx1_], rfl, hb_, (NewOk.cons hw1_ (hf1_.one (fun k_ => (fun h_ => ⟨_, mG 0 rfl, (.inl h_)⟩))) NewOk.nil), ?_⟩
 refine rZ 20 ?_
 obtain ⟨m_, hq_, hm_⟩ := nm (m08Load w i)
 unfold m08Load at hm_
 refine qR [.agg (encW m_.1 (RX.mk rx1_.A rx1_.C rw.r)).toArray, .int .u64 m_.2] (fun W1_ hT_ hR_ hF_ => ?_) (h := by rewrite [← hm_]; kernel_rfl)
 rw [hq_, ← hm_]
 exact ⟨_, rfl, ⟨(mget hR_ 0 rfl).m, (mget hR_ 0 rfl).l, (mget hR_ 0 rfl).s, (wget hR_ 1 rfl).b⟩, (fun k_ => (fun h_ => h_.elim (fun h_ => hF_ _ (mG 0 rfl) k_ h_) (fun h_ => hF_ _ (mG 1 rfl) k_ (.inr h_)))), hT_.below⟩
def m08Swap (w : RW) (i : Int) (o : Int) (v : Int) : RW × Bool := ((RW.mk w.c ((m06Swap (RM.mk w.ws w.st) i o v).1).ws ((m06Swap (RM.mk w.ws w.st) i o v).1).st w.b), (m06Swap (RM.mk w.ws w.st) i o v).2)
theorem k08_swap (w : RW) (rw : RX) (i : Int) (o : Int) (v : Int) (W : World) (hW : WAt W w rw) : Calls Try.prog 91 #[.agg (encW w rw).toArray, .int .i64 i, .int .u64 o, .int .u64 v] W (fun e W' => ∃ r0 : RX, e = .returned (.tuple #[.agg (encW ((m08Swap w i o v).1) r0).toArray, .bool (m08Swap w i o v).2]) ∧ WAt W' (m08Swap w i o v).1 r0 ∧ FreshIn [wRep w rw] W (wRep (m08Swap w i o v).1 r0) ∧ Below W.heap.size W W') := by
 refine rf_enter (args := [.agg (encW w rw).toArray, .int .i64 i, .int .u64 o, .int .u64 v]) [wRep w rw] Try.func91 rfl (by intro r hr; obtain rfl := List.mem_singleton.mp hr; exact hW) ?_
 refine rX 13 ?_
 refine qC [.agg (encM (RM.mk w.ws w.st) (MX.mk rw.A rw.C)).toArray, .int .i64 i, .int .u64 o, .int .u64 v] fun W_ hT_ hR_ => (k06_Swap (RM.mk w.ws w.st) (MX.mk rw.A rw.C) _ _ _ _ ⟨(wget hR_ 0 rfl).m, (wget hR_ 0 rfl).l, (wget hR_ 0 rfl).s⟩).mono ?_
 rintro e_ W1_ ⟨rx1_, rfl, hw1_, hf1_, hb_⟩
 refine ⟨_, [mRep ((m06Swap (RM.mk w.ws w.st) i o v).1) rx1_], rfl, hb_, (NewOk.cons hw1_ (hf1_.one (fun k_ => (fun h_ => ⟨_, mG 0 rfl, (.inl h_)⟩))) NewOk.nil), ?_⟩
 refine rZ 20 ?_
 obtain ⟨m_, hq_, hm_⟩ := nm (m08Swap w i o v)
 unfold m08Swap at hm_
 refine qR [.agg (encW m_.1 (RX.mk rx1_.A rx1_.C rw.r)).toArray, .bool m_.2] (fun W1_ hT_ hR_ hF_ => ?_) (h := by rewrite [← hm_]; kernel_rfl)
 rw [hq_, ← hm_]
 exact ⟨_, rfl, ⟨(mget hR_ 0 rfl).m, (mget hR_ 0 rfl).l, (mget hR_ 0 rfl).s, (wget hR_ 1 rfl).b⟩, (fun k_ => (fun h_ => h_.elim (fun h_ => hF_ _ (mG 0 rfl) k_ h_) (fun h_ => hF_ _ (mG 1 rfl) k_ (.inr h_)))), hT_.below⟩
def k08_Next.T1 : Bool × List (List Nat × List Nat) := (true, [([], []), ([], []), ([1], [1]), ([], []), ([2, 3], [2, 3]), ([0, 4, 4], [0, 4]), ([5], [5]), ([5], [5]), ([6, 5, 0, 1, 2, 3, 4, 5, 6, 7], [6]), ([7, 8, 0, 1, 2, 3, 4, 5, 6, 7, 8], [7])])
def m08Next (w : RW) (i : Int) : RW × Int := ((m08Load w (lNext w.c i)).1, (m08Load w (lNext w.c i)).2)
theorem k08_Next (w : RW) (rw : RX) (i : Int) (W : World) (hW : WAt W w rw) : Calls Try.prog 41 #[.agg (encW w rw).toArray, .int .i64 i] W (fun e W' => ∃ r0 : RX, e = .returned (.tuple #[.agg (encW ((m08Next w i).1) r0).toArray, .int .u64 (m08Next w i).2]) ∧ WAt W' (m08Next w i).1 r0 ∧ FreshIn [wRep w rw] W (wRep (m08Next w i).1 r0) ∧ Below W.heap.size W W') := by
 refine rf_enter (args := [.agg (encW w rw).toArray, .int .i64 i]) [wRep w rw] Try.func41 rfl (by intro r hr; obtain rfl := List.mem_singleton.mp hr; exact hW) ?_
 refine rX 7 ?_
 refine qD k08_Next.T1 [0, 0, 2, 0, 14, 31, 63, 63, 255, 511] [] [0] [] ?_
 refine rO [0, 1, 2, 3, 4, 5, 6, 7, 8, 9] ?_
 refine rZ 5 ?_
 refine qV [.agg (encC w.c).toArray, .int .i64 i] (fun W_ hT_ hR_ => c05_Next w.c i _) ?_
 refine rZ 1 ?_
 refine qC [.agg (encW w rw).toArray, .int .i64 (lNext w.c i)] fun W_ hT_ hR_ => (k08_load _ _ _ _ (wget hR_ 0 rfl)).mono ?_
 rintro e_ W1_ ⟨rx1_, rfl, hw1_, hf1_, hb_⟩
 refine ⟨_, [wRep ((m08Load w (lNext w.c i)).1) rx1_], rfl, hb_, (NewOk.cons hw1_ (hf1_.one (fun k_ => (fun h_ => ⟨_, mG 0 rfl, h_⟩))) NewOk.nil), ?_⟩
 refine rZ 6 ?_
 obtain ⟨m_, hq_, hm_⟩ := nm (m08Next w i)
 unfold m08Next at hm_
 refine qR [.agg (encW m_.1 rx1_).toArray, .int .u64 m_.2] (fun W1_ hT_ hR_ hF_ => ?_) (h := by rewrite [← hm_]; kernel_rfl)
 rw [hq_, ← hm_]
 exact ⟨_, rfl, (wget hR_ 0 rfl), (fun k_ => (fun h_ => hF_ _ (mG 0 rfl) k_ h_)), hT_.below⟩
def k08_Word.T1 : Bool × List (List Nat × List Nat) := (true, [([], []), ([], []), ([1], [1]), ([], []), ([2, 3], [2, 3]), ([0, 4, 4], [0, 4]), ([5], [5]), ([5], [5]), ([6, 5, 0, 1, 2, 3, 4, 5, 6, 7], [6]), ([7, 8, 0, 1, 2, 3, 4, 5, 6, 7, 8], [7])])
def m08Word (w : RW) (i : Int) : RW × Int := ((m08Load w (lWord w.c i)).1, (m08Load w (lWord w.c i)).2)
theorem k08_Word (w : RW) (rw : RX) (i : Int) (W : World) (hW : WAt W w rw) : Calls Try.prog 45 #[.agg (encW w rw).toArray, .int .i64 i] W (fun e W' => ∃ r0 : RX, e = .returned (.tuple #[.agg (encW ((m08Word w i).1) r0).toArray, .int .u64 (m08Word w i).2]) ∧ WAt W' (m08Word w i).1 r0 ∧ FreshIn [wRep w rw] W (wRep (m08Word w i).1 r0) ∧ Below W.heap.size W W') := by
 refine rf_enter (args := [.agg (encW w rw).toArray, .int .i64 i]) [wRep w rw] Try.func45 rfl (by intro r hr; obtain rfl := List.mem_singleton.mp hr; exact hW) ?_
 refine rX 7 ?_
 refine qD k08_Word.T1 [0, 0, 2, 0, 14, 31, 63, 63, 255, 511] [] [0] [] ?_
 refine rO [0, 1, 2, 3, 4, 5, 6, 7, 8, 9] ?_
 refine rZ 5 ?_
 refine qV [.agg (encC w.c).toArray, .int .i64 i] (fun W_ hT_ hR_ => c05_Word w.c i _) ?_
 refine rZ 1 ?_
 refine qC [.agg (encW w rw).toArray, .int .i64 (lWord w.c i)] fun W_ hT_ hR_ => (k08_load _ _ _ _ (wget hR_ 0 rfl)).mono ?_
 rintro e_ W1_ ⟨rx1_, rfl, hw1_, hf1_, hb_⟩
 refine ⟨_, [wRep ((m08Load w (lWord w.c i)).1) rx1_], rfl, hb_, (NewOk.cons hw1_ (hf1_.one (fun k_ => (fun h_ => ⟨_, mG 0 rfl, h_⟩))) NewOk.nil), ?_⟩
 refine rZ 6 ?_
 obtain ⟨m_, hq_, hm_⟩ := nm (m08Word w i)
 unfold m08Word at hm_
 refine qR [.agg (encW m_.1 rx1_).toArray, .int .u64 m_.2] (fun W1_ hT_ hR_ hF_ => ?_) (h := by rewrite [← hm_]; kernel_rfl)
 rw [hq_, ← hm_]
 exact ⟨_, rfl, (wget hR_ 0 rfl), (fun k_ => (fun h_ => hF_ _ (mG 0 rfl) k_ h_)), hT_.below⟩
def k08_Ann.T1 : Bool × List (List Nat × List Nat) := (true, [([], []), ([], []), ([1], [1]), ([], []), ([2, 3], [2, 3]), ([0, 4, 4], [0, 4]), ([5], [5]), ([6], [6]), ([6], [6]), ([], []), ([9, 7, 5, 0, 1, 2, 3, 4, 5, 6, 7, 9], [7, 9]), ([8, 10, 0, 1, 2, 3, 4, 5, 6, 7, 8, 9, 10], [8])])
def k08_Ann.c1 (w : RW) (rw : RX) (i : Int) (x_ : RX) : St := match x_ with | rx1_ => ⟨[some ⟨true, 37, (encW w rw).map .v⟩, some ⟨true, 37, (encW (RW.mk ⟨0, 0, 0, 0, 0⟩ [] 0 (RB.mk ⟨0, 0, 0, 0, 0⟩ [] [] [] [] [])) (RX.mk none 0 (RA.mk none none none none none 0 0 0 0 0))).map .v⟩, some ⟨true, 37, (encW ((m08Load w (lAnn w.c i)).1) rx1_).map .v⟩], [.v (.agg (encW w rw).toArray), .v (.int .i64 i), .ad 0 0, .v (undef), .ad 1 0, .v (.int .i64 0), .ad 2 0, .v (.int .u64 ((m08Load w (lAnn w.c i)).2)), .v (.tuple #[.agg (encW ((m08Load w (lAnn w.c i)).1) rx1_).toArray, .int .u64 ((m08Load w (lAnn w.c i)).2)]), .v (.agg (encW w rw).toArray), .ad 0 0, .v (.agg (encC w.c).toArray), .v (.int .i64 i), .v (.int .i64 (lAnn w.c i)), .v (.tuple #[.agg (encW ((m08Load w (lAnn w.c i)).1) rx1_).toArray, .int .u64 ((m08Load w (lAnn w.c i)).2)]), .v (.agg (encW ((m08Load w (lAnn w.c i)).1) rx1_).toArray), .v (.int .u64 ((m08Load w (lAnn w.c i)).2)), .v (undef), .v (undef), .v (undef), .v (undef)]⟩
def k08_Ann.r1 (w : RW) (rw : RX) (i : Int) (x_ : RX) : List PRep := match x_ with | rx1_ => [wRep ((m08Load w (lAnn w.c i)).1) rx1_, wRep w rw]
def m08Ann (w : RW) (i : Int) : RW × Int := ((m08Load w (lAnn w.c i)).1, (IntKind.i64.wrap ((IntKind.i64.wrap ((m08Load w (lAnn w.c i)).2)) - 1)))
theorem k08_Ann (w : RW) (rw : RX) (i : Int) (W : World) (hW : WAt W w rw) : Calls Try.prog 62 #[.agg (encW w rw).toArray, .int .i64 i] W (fun e W' => ∃ r0 : RX, e = .returned (.tuple #[.agg (encW ((m08Ann w i).1) r0).toArray, .int .i64 (m08Ann w i).2]) ∧ WAt W' (m08Ann w i).1 r0 ∧ FreshIn [wRep w rw] W (wRep (m08Ann w i).1 r0) ∧ Below W.heap.size W W') := by
 refine rf_enter (args := [.agg (encW w rw).toArray, .int .i64 i]) [wRep w rw] Try.func62 rfl (by intro r hr; obtain rfl := List.mem_singleton.mp hr; exact hW) ?_
 refine rX 7 ?_
 refine qK (k08_Ann.c1 w rw i) (k08_Ann.r1 w rw i) (fun _ => True) ?_ ?_
 ·refine qD k08_Ann.T1 [0, 0, 2, 0, 14, 31, 63, 127, 127, 0, 767, 2047] [10] [0] [] ?_
  refine rO [0, 1, 2, 3] ?_
  refine rZ 4 ?_
  refine qF 4 9 ?_ ?_
  ·refine rO [] ?_
   refine qV [.agg (encC w.c).toArray, .int .i64 i] (fun W_ hT_ hR_ => c05_Ann w.c i _) ?_
   refine qF 5 9 ?_ ?_
   ·refine rO [6, 7, 8, 9, 10, 11] ?_
    refine qC [.agg (encW w rw).toArray, .int .i64 (lAnn w.c i)] fun W_ hT_ hR_ => (k08_load _ _ _ _ (wget hR_ 0 rfl)).mono ?_
    rintro e_ W1_ ⟨rx1_, rfl, hw1_, hf1_, hb_⟩
    refine ⟨_, [wRep ((m08Load w (lAnn w.c i)).1) rx1_], rfl, hb_, (NewOk.cons hw1_ (hf1_.one (fun k_ => (fun h_ => ⟨_, mG 0 rfl, h_⟩))) NewOk.nil), ?_⟩
    refine rZ 9 ?_
    exact qJ (k08_Ann.c1 w rw i) (k08_Ann.r1 w rw i) (fun _ => True) rx1_ trivial (by simp [k08_Ann.r1])
   ·refine rO [5, 6, 7, 8, 10, 11] ?_
    refine rZ 2 ?_
    refine qC [.agg (encW w rw).toArray, .int .i64 (lAnn w.c i)] fun W_ hT_ hR_ => (k08_load _ _ _ _ (wget hR_ 0 rfl)).mono ?_
    rintro e_ W1_ ⟨rx2_, rfl, hw2_, hf2_, hb_⟩
    refine ⟨_, [wRep ((m08Load w (lAnn w.c i)).1) rx2_], rfl, hb_, (NewOk.cons hw2_ (hf2_.one (fun k_ => (fun h_ => ⟨_, mG 0 rfl, h_⟩))) NewOk.nil), ?_⟩
    refine rZ 7 ?_
    exact qJ (k08_Ann.c1 w rw i) (k08_Ann.r1 w rw i) (fun _ => True) rx2_ trivial (by simp [k08_Ann.r1])
  ·refine rO [4, 5, 6, 7, 8, 10, 11] ?_
   refine rZ 2 ?_
   refine qV [.agg (encC w.c).toArray, .int .i64 i] (fun W_ hT_ hR_ => c05_Ann w.c i _) ?_
   refine rZ 1 ?_
   refine qC [.agg (encW w rw).toArray, .int .i64 (lAnn w.c i)] fun W_ hT_ hR_ => (k08_load _ _ _ _ (wget hR_ 0 rfl)).mono ?_
   rintro e_ W1_ ⟨rx3_, rfl, hw3_, hf3_, hb_⟩
   refine ⟨_, [wRep ((m08Load w (lAnn w.c i)).1) rx3_], rfl, hb_, (NewOk.cons hw3_ (hf3_.one (fun k_ => (fun h_ => ⟨_, mG 0 rfl, h_⟩))) NewOk.nil), ?_⟩
   refine rZ 7 ?_
   exact qJ (k08_Ann.c1 w rw i) (k08_Ann.r1 w rw i) (fun _ => True) rx3_ trivial (by simp [k08_Ann.r1])
 ·rintro rx1_ -
  refine rZ 9 ?_
  obtain ⟨m_, hq_, hm_⟩ := nm (m08Ann w i)
  unfold m08Ann at hm_
  refine qR [.agg (encW m_.1 rx1_).toArray, .int .i64 m_.2] (fun W1_ hT_ hR_ hF_ => ?_) (h := by rewrite [← hm_]; kernel_rfl)
  rw [hq_, ← hm_]
  exact ⟨_, rfl, (wget hR_ 0 rfl), (fun k_ => (fun h_ => hF_ _ (mG 0 rfl) k_ h_)), hT_.below⟩
def k08_Set.T1 : Bool × List (List Nat × List Nat) := (true, [([], []), ([0], [0]), ([], []), ([2], [2]), ([], []), ([3, 4], [3, 4]), ([], []), ([1, 5, 6, 5], [1, 5, 6]), ([0, 1, 2, 3, 4, 5, 6, 7], []), ([8, 7, 7, 0, 1, 2, 3, 4, 5, 6, 7], [7, 8])])
def m08Set (w : RW) (i : Int) (v : Int) : RW := (RW.mk w.c (m06Store (RM.mk w.ws w.st) (lNext w.c i) v).ws (m06Store (RM.mk w.ws w.st) (lNext w.c i) v).st w.b)
theorem k08_Set (w : RW) (rw : RX) (i : Int) (v : Int) (W : World) (hW : WAt W w rw) : Calls Try.prog 90 #[.agg (encW w rw).toArray, .int .i64 i, .int .u64 v] W (fun e W' => ∃ r0 : RX, e = .returned (.agg (encW (m08Set w i v) r0).toArray) ∧ WAt W' (m08Set w i v) r0 ∧ FreshIn [wRep w rw] W (wRep (m08Set w i v) r0) ∧ Below W.heap.size W W') := by
 refine rf_enter (args := [.agg (encW w rw).toArray, .int .i64 i, .int .u64 v]) [wRep w rw] Try.func90 rfl (by intro r hr; obtain rfl := List.mem_singleton.mp hr; exact hW) ?_
 refine rX 6 ?_
 refine qD k08_Set.T1 [0, 1, 0, 4, 0, 28, 0, 127, 255, 511] [9] [0] [] ?_
 refine rO [0, 1, 2, 3, 4, 6, 5, 7, 8, 9] ?_
 refine rZ 7 ?_
 refine qV [.agg (encC w.c).toArray, .int .i64 i] (fun W_ hT_ hR_ => c05_Next w.c i _) ?_
 refine rZ 1 ?_
 refine qC [.agg (encM (RM.mk w.ws w.st) (MX.mk rw.A rw.C)).toArray, .int .i64 (lNext w.c i), .int .u64 v] fun W_ hT_ hR_ => (k06_Store (RM.mk w.ws w.st) (MX.mk rw.A rw.C) _ _ _ ⟨(wget hR_ 0 rfl).m, (wget hR_ 0 rfl).l, (wget hR_ 0 rfl).s⟩).mono ?_
 rintro e_ W1_ ⟨rx1_, rfl, hw1_, hf1_, hb_⟩
 refine ⟨_, [mRep (m06Store (RM.mk w.ws w.st) (lNext w.c i) v) rx1_], rfl, hb_, (NewOk.cons hw1_ (hf1_.one (fun k_ => (fun h_ => ⟨_, mG 0 rfl, (.inl h_)⟩))) NewOk.nil), ?_⟩
 refine rZ 9 ?_
 obtain ⟨m_, hq_, hm_⟩ := nm (m08Set w i v)
 unfold m08Set at hm_
 refine qR [.agg (encW m_ (RX.mk rx1_.A rx1_.C rw.r)).toArray] (fun W1_ hT_ hR_ hF_ => ?_) (h := by rewrite [← hm_]; kernel_rfl)
 rw [hq_, ← hm_]
 exact ⟨_, rfl, ⟨(mget hR_ 0 rfl).m, (mget hR_ 0 rfl).l, (mget hR_ 0 rfl).s, (wget hR_ 1 rfl).b⟩, (fun k_ => (fun h_ => h_.elim (fun h_ => hF_ _ (mG 0 rfl) k_ h_) (fun h_ => hF_ _ (mG 1 rfl) k_ (.inr h_)))), hT_.below⟩
def k08_Say.T1 : Bool × List (List Nat × List Nat) := (true, [([], []), ([0], [0]), ([], []), ([2], [2]), ([], []), ([3, 4], [3, 4]), ([], []), ([6], [6]), ([7], [7]), ([1, 5, 8, 5], [1, 5, 8]), ([0, 1, 2, 3, 4, 5, 6, 7, 8, 9], []), ([10, 9, 9, 0, 1, 2, 3, 4, 5, 6, 7, 8, 9], [9, 10])])
def m08Say (w : RW) (i : Int) (v : Int) : RW := (RW.mk w.c (m06Store (RM.mk w.ws w.st) (lAnn w.c i) (IntKind.u64.wrap (IntKind.i64.wrap (v + 1)))).ws (m06Store (RM.mk w.ws w.st) (lAnn w.c i) (IntKind.u64.wrap (IntKind.i64.wrap (v + 1)))).st w.b)
theorem k08_Say (w : RW) (rw : RX) (i : Int) (v : Int) (W : World) (hW : WAt W w rw) : Calls Try.prog 51 #[.agg (encW w rw).toArray, .int .i64 i, .int .i64 v] W (fun e W' => ∃ r0 : RX, e = .returned (.agg (encW (m08Say w i v) r0).toArray) ∧ WAt W' (m08Say w i v) r0 ∧ FreshIn [wRep w rw] W (wRep (m08Say w i v) r0) ∧ Below W.heap.size W W') := by
 refine rf_enter (args := [.agg (encW w rw).toArray, .int .i64 i, .int .i64 v]) [wRep w rw] Try.func51 rfl (by intro r hr; obtain rfl := List.mem_singleton.mp hr; exact hW) ?_
 refine rX 6 ?_
 refine qD k08_Say.T1 [0, 1, 0, 4, 0, 28, 0, 64, 192, 511, 1023, 2047] [11] [0] [] ?_
 refine rO [0, 1, 2, 3, 4, 6, 7, 8, 5, 9, 10, 11] ?_
 refine rZ 9 ?_
 refine qV [.agg (encC w.c).toArray, .int .i64 i] (fun W_ hT_ hR_ => c05_Ann w.c i _) ?_
 refine rZ 1 ?_
 refine qC [.agg (encM (RM.mk w.ws w.st) (MX.mk rw.A rw.C)).toArray, .int .i64 (lAnn w.c i), .int .u64 (IntKind.u64.wrap (IntKind.i64.wrap (v + 1)))] fun W_ hT_ hR_ => (k06_Store (RM.mk w.ws w.st) (MX.mk rw.A rw.C) _ _ _ ⟨(wget hR_ 0 rfl).m, (wget hR_ 0 rfl).l, (wget hR_ 0 rfl).s⟩).mono ?_
 rintro e_ W1_ ⟨rx1_, rfl, hw1_, hf1_, hb_⟩
 refine ⟨_, [mRep (m06Store (RM.mk w.ws w.st) (lAnn w.c i) (IntKind.u64.wrap (IntKind.i64.wrap (v + 1)))) rx1_], rfl, hb_, (NewOk.cons hw1_ (hf1_.one (fun k_ => (fun h_ => ⟨_, mG 0 rfl, (.inl h_)⟩))) NewOk.nil), ?_⟩
 refine rZ 9 ?_
 obtain ⟨m_, hq_, hm_⟩ := nm (m08Say w i v)
 unfold m08Say at hm_
 refine qR [.agg (encW m_ (RX.mk rx1_.A rx1_.C rw.r)).toArray] (fun W1_ hT_ hR_ hF_ => ?_) (h := by rewrite [← hm_]; kernel_rfl)
 rw [hq_, ← hm_]
 exact ⟨_, rfl, ⟨(mget hR_ 0 rfl).m, (mget hR_ 0 rfl).l, (mget hR_ 0 rfl).s, (wget hR_ 1 rfl).b⟩, (fun k_ => (fun h_ => h_.elim (fun h_ => hF_ _ (mG 0 rfl) k_ h_) (fun h_ => hF_ _ (mG 1 rfl) k_ (.inr h_)))), hT_.below⟩
def k08_Link.T1 : Bool × List (List Nat × List Nat) := (true, [([], []), ([], []), ([1], [1]), ([], []), ([2, 3], [2, 3]), ([], []), ([], []), ([0, 4, 5, 6, 4], [0, 4, 5, 6]), ([7], [7]), ([7], [7]), ([8, 7, 0, 1, 2, 3, 4, 5, 6, 7, 8, 9], [8]), ([9, 10, 0, 1, 2, 3, 4, 5, 6, 7, 8, 9, 10], [9])])
def m08Link (w : RW) (i : Int) (o : Int) (v : Int) : RW × Bool := ((m08Swap w (lNext w.c i) o v).1, (m08Swap w (lNext w.c i) o v).2)
theorem k08_Link (w : RW) (rw : RX) (i : Int) (o : Int) (v : Int) (W : World) (hW : WAt W w rw) : Calls Try.prog 77 #[.agg (encW w rw).toArray, .int .i64 i, .int .u64 o, .int .u64 v] W (fun e W' => ∃ r0 : RX, e = .returned (.tuple #[.agg (encW ((m08Link w i o v).1) r0).toArray, .bool (m08Link w i o v).2]) ∧ WAt W' (m08Link w i o v).1 r0 ∧ FreshIn [wRep w rw] W (wRep (m08Link w i o v).1 r0) ∧ Below W.heap.size W W') := by
 refine rf_enter (args := [.agg (encW w rw).toArray, .int .i64 i, .int .u64 o, .int .u64 v]) [wRep w rw] Try.func77 rfl (by intro r hr; obtain rfl := List.mem_singleton.mp hr; exact hW) ?_
 refine rX 7 ?_
 refine qD k08_Link.T1 [0, 0, 2, 0, 14, 0, 0, 127, 255, 255, 1023, 2047] [] [0] [] ?_
 refine rO [0, 1, 2, 3, 5, 6, 4, 7, 8, 9, 10, 11] ?_
 refine rZ 7 ?_
 refine qV [.agg (encC w.c).toArray, .int .i64 i] (fun W_ hT_ hR_ => c05_Next w.c i _) ?_
 refine rZ 1 ?_
 refine qC [.agg (encW w rw).toArray, .int .i64 (lNext w.c i), .int .u64 o, .int .u64 v] fun W_ hT_ hR_ => (k08_swap _ _ _ _ _ _ (wget hR_ 0 rfl)).mono ?_
 rintro e_ W1_ ⟨rx1_, rfl, hw1_, hf1_, hb_⟩
 refine ⟨_, [wRep ((m08Swap w (lNext w.c i) o v).1) rx1_], rfl, hb_, (NewOk.cons hw1_ (hf1_.one (fun k_ => (fun h_ => ⟨_, mG 0 rfl, h_⟩))) NewOk.nil), ?_⟩
 refine rZ 6 ?_
 obtain ⟨m_, hq_, hm_⟩ := nm (m08Link w i o v)
 unfold m08Link at hm_
 refine qR [.agg (encW m_.1 rx1_).toArray, .bool m_.2] (fun W1_ hT_ hR_ hF_ => ?_) (h := by rewrite [← hm_]; kernel_rfl)
 rw [hq_, ← hm_]
 exact ⟨_, rfl, (wget hR_ 0 rfl), (fun k_ => (fun h_ => hF_ _ (mG 0 rfl) k_ h_)), hT_.below⟩
def k08_Turn.T1 : Bool × List (List Nat × List Nat) := (true, [([], []), ([], []), ([1], [1]), ([], []), ([2, 3], [2, 3]), ([], []), ([], []), ([0, 4, 5, 6, 4], [0, 4, 5, 6]), ([7], [7]), ([7], [7]), ([8, 7, 0, 1, 2, 3, 4, 5, 6, 7, 8, 9], [8]), ([9, 10, 0, 1, 2, 3, 4, 5, 6, 7, 8, 9, 10], [9])])
def m08Turn (w : RW) (i : Int) (o : Int) (v : Int) : RW × Bool := ((m08Swap w (lWord w.c i) o v).1, (m08Swap w (lWord w.c i) o v).2)
theorem k08_Turn (w : RW) (rw : RX) (i : Int) (o : Int) (v : Int) (W : World) (hW : WAt W w rw) : Calls Try.prog 81 #[.agg (encW w rw).toArray, .int .i64 i, .int .u64 o, .int .u64 v] W (fun e W' => ∃ r0 : RX, e = .returned (.tuple #[.agg (encW ((m08Turn w i o v).1) r0).toArray, .bool (m08Turn w i o v).2]) ∧ WAt W' (m08Turn w i o v).1 r0 ∧ FreshIn [wRep w rw] W (wRep (m08Turn w i o v).1 r0) ∧ Below W.heap.size W W') := by
 refine rf_enter (args := [.agg (encW w rw).toArray, .int .i64 i, .int .u64 o, .int .u64 v]) [wRep w rw] Try.func81 rfl (by intro r hr; obtain rfl := List.mem_singleton.mp hr; exact hW) ?_
 refine rX 7 ?_
 refine qD k08_Turn.T1 [0, 0, 2, 0, 14, 0, 0, 127, 255, 255, 1023, 2047] [] [0] [] ?_
 refine rO [0, 1, 2, 3, 5, 6, 4, 7, 8, 9, 10, 11] ?_
 refine rZ 7 ?_
 refine qV [.agg (encC w.c).toArray, .int .i64 i] (fun W_ hT_ hR_ => c05_Word w.c i _) ?_
 refine rZ 1 ?_
 refine qC [.agg (encW w rw).toArray, .int .i64 (lWord w.c i), .int .u64 o, .int .u64 v] fun W_ hT_ hR_ => (k08_swap _ _ _ _ _ _ (wget hR_ 0 rfl)).mono ?_
 rintro e_ W1_ ⟨rx1_, rfl, hw1_, hf1_, hb_⟩
 refine ⟨_, [wRep ((m08Swap w (lWord w.c i) o v).1) rx1_], rfl, hb_, (NewOk.cons hw1_ (hf1_.one (fun k_ => (fun h_ => ⟨_, mG 0 rfl, h_⟩))) NewOk.nil), ?_⟩
 refine rZ 6 ?_
 obtain ⟨m_, hq_, hm_⟩ := nm (m08Turn w i o v)
 unfold m08Turn at hm_
 refine qR [.agg (encW m_.1 rx1_).toArray, .bool m_.2] (fun W1_ hT_ hR_ hF_ => ?_) (h := by rewrite [← hm_]; kernel_rfl)
 rw [hq_, ← hm_]
 exact ⟨_, rfl, (wget hR_ 0 rfl), (fun k_ => (fun h_ => hF_ _ (mG 0 rfl) k_ h_)), hT_.below⟩
def k08_Head.T1 : Bool × List (List Nat × List Nat) := (true, [([], []), ([0], [0]), ([], []), ([], []), ([3], [3]), ([4], [4]), ([2, 5], [2, 5]), ([1, 6, 6], [1, 6]), ([7, 7, 0, 1, 2, 3, 4, 5, 6, 7], [7])])
def m08Head (w : RW) (k : Int) : Int := (lHead w.c (pBucket k w.c.f1))
theorem k08_Head (w : RW) (rw : RX) (k : Int) (W : World) (hW : WAt W w rw) : Calls Try.prog 95 #[.agg (encW w rw).toArray, .int .u64 k] W (fun e W' => e = .returned (.int .i64 (m08Head w k)) ∧ Below W.heap.size W W') := by
 refine rf_enter (args := [.agg (encW w rw).toArray, .int .u64 k]) [wRep w rw] Try.func95 rfl (by intro r hr; obtain rfl := List.mem_singleton.mp hr; exact hW) ?_
 refine rX 6 ?_
 refine qD k08_Head.T1 [0, 1, 0, 0, 8, 24, 60, 127, 255] [] [0] [] ?_
 refine rO [0, 1, 2, 3, 4, 5, 6, 7, 8] ?_
 refine rZ 7 ?_
 refine qV [.int .u64 k, .int .i64 w.c.f1] (fun W_ hT_ hR_ => c03_Bucket k w.c.f1 _) ?_
 refine rZ 1 ?_
 refine qV [.agg (encC w.c).toArray, .int .i64 (pBucket k w.c.f1)] (fun W_ hT_ hR_ => c05_Head w.c (pBucket k w.c.f1) _) ?_
 refine rZ 2 ?_
 obtain ⟨m_, hq_, hm_⟩ := nm (m08Head w k)
 unfold m08Head at hm_
 refine qR [.int .i64 m_] (fun W1_ hT_ hR_ hF_ => ?_) (h := by rewrite [← hm_]; kernel_rfl)
 rw [hq_, ← hm_]
 exact ⟨rfl, hT_.below⟩
end Go.Proofs.Ytbhakljebcmocaa.PBoundKeeps
end
