-- Written by a program of this session: a variant of the print that takes proofs by hand (wip/tools/mkprint.py)
import Derived.Test.YtpcmoclohepdiadPHistoryPartx0
import Derived.Test.YtpcmoclohepdiadPHistoryPartx1
import Derived.Test.YtpcmoclohepdiadPHistoryPartx3
import Derived.Test.YtpcmoclohepdiadPHistoryPartx4
namespace Go.Proofs.Ytpcmoclohepdiad.PHistoryPart
open Go.RowKit Go.Proofs.YtpcmoclohepdiadW.PrintWords Go.Proofs.YtpcmoclohepdiadW.PrintLast Go.Proofs.YtpcmoclohepdiadW.PrintMore
attribute [local go_sem] max2_int min2_int max_two min_two max_three min_three max_four min_four   -- for this text's walks alone
set_option linter.unusedVariables false
set_option linter.unusedSimpArgs false

/-! ### corrielaw19_HistoryPart: function 5 (by hand) -/
def hpa_oth (m : Int) (l : List S31) : List S31 := l.filter (fun x => x.f0 != m)
def corrielaw19_HistoryPart.f (k : Nat) (l0 : List S31) (a1 : Int) : Option Bool := (corrieref19_Few.f k l0 12).bind fun z => if z = true then (corrieref19_Valid.f k l0).bind fun v => if v = true then (if l0.length ≤ 12 ∧ 0 ≤ (wrap64 a1).tmod (wrap64 ((l0.length : Int) + 1)) ∧ (wrap64 a1).tmod (wrap64 ((l0.length : Int) + 1)) ≤ (l0.length : Int) then (history_Valid.f k (l0.take ((wrap64 a1).tmod (wrap64 ((l0.length : Int) + 1))).toNat)).bind fun p => (history_Valid.f k (hpa_oth ((wrap64 a1).tmod 3) l0)).bind fun q => if p = true ∧ q = true then some true else none else none) else some true else some true
theorem corrielaw19_HistoryPart.mono : ∀ l0 a1 k, LeO (corrielaw19_HistoryPart.f k l0 a1) (corrielaw19_HistoryPart.f (k + 1) l0 a1) := by
  intros
  exact LeO.bind (corrieref19_Few.mono _ _ _) (fun _ => LeO.ite (LeO.bind (corrieref19_Valid.mono _ _) (fun _ => LeO.ite (LeO.ite (LeO.bind (history_Valid.mono _ _) (fun _ => LeO.bind (history_Valid.mono _ _) (fun _ => LeO.refl _))) (LeO.refl _)) (LeO.refl _))) (LeO.refl _))
set_option maxHeartbeats 8000000 in
set_option maxRecDepth 100000 in
theorem corrielaw19_HistoryPart.calls (k : Nat) (A0 : Option Addr) (c0 : Nat) (l0 : List S31) (a1 : Int) (r : Bool) (w : World) (hr0 : Kd.C k31 w A0 l0.length l0) (hc0 : l0.length ≤ c0) (h : corrielaw19_HistoryPart.f k l0 a1 = some r) :
    Calls Try.prog 5 #[.slice A0 l0.length c0, .int .u8 a1] w fun e w' => e = .returned (.bool r) ∧ Below w.heap.size w w' := by
  have HR0 := Aside0.mk hr0
  have HC0 := Aside0.mk hc0
  have HB := Aside0.mk (Below.refl w.heap.size w)
  clear hr0 hc0
  unfold corrielaw19_HistoryPart.f at h
  obtain ⟨z, hz, h⟩ := Option.bind_eq_some_iff.mp h
  have Hz := Aside0.mk hz
  clear hz
  cases z with
  | false =>
    obtain rfl := Option.some.inj h
    clear h
    go_enter Try.func5, Try.ntmps5
    go_wp2_with (first | (go_at_call 8; (with_reducible refine (corrielaw19_awake.calls true _ rfl).mono ?_); rintro e w1 ⟨rfl, hb⟩; have n0_ := Aside0.mk (below_step HB.out hb); clear HB hb; have HB := n0_; clear n0_) | (go_at_call 9; (with_reducible refine (corrieref19_Few.calls k A0 c0 l0 12 false _ (Kd.C_below HR0.out HB.out) HC0.out Hz.out).mono ?_); rintro e w2 ⟨rfl, hd⟩; have hb := Drawn0.below hd; clear hd; have n0_ := Aside0.mk (below_step HB.out hb); clear HB hb; have HB := n0_; clear n0_))
    go_ret
    exact ⟨by first | rfl | (simp [*]; done), by repeat (first | (with_reducible first | exact HB.out | apply below_alloc | apply pw_below_drewN | apply below_drew1) | exact HB.out)⟩
  | true =>
    replace h := (if_pos (c := (true = true)) rfl).symm.trans h
    obtain ⟨v, hv, h⟩ := Option.bind_eq_some_iff.mp h
    have Hv := Aside0.mk hv
    clear hv
    cases v with
    | false =>
      obtain rfl := Option.some.inj h
      clear h
      go_enter Try.func5, Try.ntmps5
      go_wp2_with (first | (go_at_call 8; (with_reducible refine (corrielaw19_awake.calls true _ rfl).mono ?_); rintro e w1 ⟨rfl, hb⟩; have n0_ := Aside0.mk (below_step HB.out hb); clear HB hb; have HB := n0_; clear n0_) | (go_at_call 9; (with_reducible refine (corrieref19_Few.calls k A0 c0 l0 12 true _ (Kd.C_below HR0.out HB.out) HC0.out Hz.out).mono ?_); rintro e w2 ⟨rfl, hd⟩; have hb := Drawn0.below hd; clear hd; have n0_ := Aside0.mk (below_step HB.out hb); clear HB hb; have HB := n0_; clear n0_) | (go_at_call 11; (with_reducible refine (corrieref19_Valid.calls k A0 c0 l0 false _ (Kd.C_below HR0.out HB.out) HC0.out Hv.out).mono ?_); rintro e w3 ⟨rfl, hb⟩; have n0_ := Aside0.mk (below_step HB.out hb); clear HB hb; have HB := n0_; clear n0_))
      go_ret
      exact ⟨by first | rfl | (simp [*]; done), by repeat (first | (with_reducible first | exact HB.out | apply below_alloc | apply pw_below_drewN | apply below_drew1) | exact HB.out)⟩
    | true =>
      replace h := (if_pos (c := (true = true)) rfl).symm.trans h
      by_cases hl : l0.length ≤ 12 ∧ 0 ≤ (wrap64 a1).tmod (wrap64 ((l0.length : Int) + 1)) ∧ (wrap64 a1).tmod (wrap64 ((l0.length : Int) + 1)) ≤ (l0.length : Int)
      rotate_left
      · rw [if_neg hl] at h
        cases h
      rw [if_pos hl] at h
      have HL := Aside0.mk hl.1
      have HN := Aside0.mk hl.2
      clear hl
      obtain ⟨p, hp, h⟩ := Option.bind_eq_some_iff.mp h
      obtain ⟨q, hq, h⟩ := Option.bind_eq_some_iff.mp h
      by_cases cc : p = true ∧ q = true
      rotate_left
      · rw [if_neg cc] at h
        cases h
      rw [if_pos cc] at h
      obtain rfl := Option.some.inj h
      obtain ⟨rfl, rfl⟩ := cc
      have Hp := Aside0.mk hp
      have Hq := Aside0.mk hq
      clear h hp hq
      have hdz : ¬ wrap64 ((l0.length : Int) + 1) = 0 := by have := HL.out; unfold wrap64; omega
      go_enter Try.func5, Try.ntmps5
      go_wp2_with (first | (go_at_call 8; (with_reducible refine (corrielaw19_awake.calls true _ rfl).mono ?_); rintro e w1 ⟨rfl, hb⟩; have n0_ := Aside0.mk (below_step HB.out hb); clear HB hb; have HB := n0_; clear n0_) | (go_at_call 9; (with_reducible refine (corrieref19_Few.calls k A0 c0 l0 12 true _ (Kd.C_below HR0.out HB.out) HC0.out Hz.out).mono ?_); rintro e w2 ⟨rfl, hd⟩; have hb := Drawn0.below hd; clear hd; have n0_ := Aside0.mk (below_step HB.out hb); clear HB hb; have HB := n0_; clear n0_) | (go_at_call 11; (with_reducible refine (corrieref19_Valid.calls k A0 c0 l0 true _ (Kd.C_below HR0.out HB.out) HC0.out Hv.out).mono ?_); rintro e w3 ⟨rfl, hb⟩; have n0_ := Aside0.mk (below_step HB.out hb); clear HB hb; have HB := n0_; clear n0_))
      have HK0 := Aside0.mk (show ∀ (i : Nat) (hi : i < l0.length), ∃ (ad : Addr) (A : Option Addr) (c : Nat) (x : S31), A0 = some ad ∧ l0[i]? = some x ∧ k31.K w x [.int .i64 x.f0, .int .i64 x.f1, .int .i64 x.f2, .int .i64 x.f3, .int .i64 x.f4, .int .i64 x.f5.f0, .int .u64 x.f5.f1, .int .u64 x.f5.f2, .int .i64 x.f5.f3, .int .i64 x.f6.f0, .bool x.f6.f1, .int .u64 x.f6.f2, .slice A x.f6.f3.length c] ∧ w.cell? (ad.add (i * 13)) = some (.int .i64 x.f0) ∧ w.cell? ⟨(ad.add (i * 13)).block, (ad.add (i * 13)).off + 1, none⟩ = some (.int .i64 x.f1) ∧ w.cell? ⟨(ad.add (i * 13)).block, (ad.add (i * 13)).off + 2, none⟩ = some (.int .i64 x.f2) ∧ w.cell? ⟨(ad.add (i * 13)).block, (ad.add (i * 13)).off + 3, none⟩ = some (.int .i64 x.f3) ∧ w.cell? ⟨(ad.add (i * 13)).block, (ad.add (i * 13)).off + 4, none⟩ = some (.int .i64 x.f4) ∧ w.cell? ⟨(ad.add (i * 13)).block, (ad.add (i * 13)).off + 5, none⟩ = some (.int .i64 x.f5.f0) ∧ w.cell? ⟨(ad.add (i * 13)).block, (ad.add (i * 13)).off + 6, none⟩ = some (.int .u64 x.f5.f1) ∧ w.cell? ⟨(ad.add (i * 13)).block, (ad.add (i * 13)).off + 7, none⟩ = some (.int .u64 x.f5.f2) ∧ w.cell? ⟨(ad.add (i * 13)).block, (ad.add (i * 13)).off + 8, none⟩ = some (.int .i64 x.f5.f3) ∧ w.cell? ⟨(ad.add (i * 13)).block, (ad.add (i * 13)).off + 9, none⟩ = some (.int .i64 x.f6.f0) ∧ w.cell? ⟨(ad.add (i * 13)).block, (ad.add (i * 13)).off + 10, none⟩ = some (.bool x.f6.f1) ∧ w.cell? ⟨(ad.add (i * 13)).block, (ad.add (i * 13)).off + 11, none⟩ = some (.int .u64 x.f6.f2) ∧ w.cell? ⟨(ad.add (i * 13)).block, (ad.add (i * 13)).off + 12, none⟩ = some (.slice A x.f6.f3.length c) from fun i hi => by
        obtain ⟨ad, A, c, e, h0, h1, h2, h3, h4, h5, h6, h7, h8, h9, h10, h11, h12, hl, hi2⟩ := at_T31 HR0.out (i : Int) (by omega) (by omega)
        rw [hpt_rd l0 i hi] at h0 h1 h2 h3 h4 h5 h6 h7 h8 h9 h10 h11 h12 hl hi2
        exact ⟨ad, A, c, _, e, List.getElem?_eq_getElem hi, k31_mk w _ hl hi2, h0, h1, h2, h3, h4, h5, h6, h7, h8, h9, h10, h11, h12⟩)
      have HB3 := HB
      go_loopg [7, 8] l0.length (fun kq v7 v8 wr => ∃ (i : Nat) (inn : List Value), v8 = .int .i64 i ∧ Aside0 (i ≤ l0.length) ∧ Aside0 (l0.length - i ≤ kq) ∧ Aside0 (wr.ownsRow w.heap.size 31 13 v7 (hpa_oth ((wrap64 a1).tmod 3) (l0.take i)).length inn) ∧ Aside0 (Reps (k31.K w) 13 (hpa_oth ((wrap64 a1).tmod 3) (l0.take i)) inn) ∧ Aside0 (Below w.heap.size w wr))
      case atStart => exact ⟨0, [], rfl, ⟨Nat.zero_le _⟩, ⟨by omega⟩, ⟨by rw [List.take_zero]; exact World.ownsRow_nil _ _ _ _⟩, ⟨by rw [List.take_zero]; exact Reps.none _ _⟩, HB⟩
      case round =>
        clear HB HB3
        obtain ⟨i, inn, rfl, HJ, HKq, HO, HR, HB⟩ := hrel
        by_cases hlt : i < l0.length
        · have hltb : (i : Int) < (l0.length : Int) := by omega
          have HLT := Aside0.mk hlt
          obtain ⟨ad, A12, c12, x, e12, hx_, hK, hx0, hx1, hx2, hx3, hx4, hx5, hx6, hx7, hx8, hx9, hx10, hx11, hx12⟩ := HK0.out i hlt
          subst e12
          have HX := Aside0.mk hx_
          have HKx := Aside0.mk hK
          clear hlt hx_ hK
          replace hx0 := pw_cell_below HB.out hx0
          replace hx1 := pw_cell_below HB.out hx1
          replace hx2 := pw_cell_below HB.out hx2
          replace hx3 := pw_cell_below HB.out hx3
          replace hx4 := pw_cell_below HB.out hx4
          replace hx5 := pw_cell_below HB.out hx5
          replace hx6 := pw_cell_below HB.out hx6
          replace hx7 := pw_cell_below HB.out hx7
          replace hx8 := pw_cell_below HB.out hx8
          replace hx9 := pw_cell_below HB.out hx9
          replace hx10 := pw_cell_below HB.out hx10
          replace hx11 := pw_cell_below HB.out hx11
          replace hx12 := pw_cell_below HB.out hx12
          cases hq : (x.f0 != (wrap64 a1).tmod 3) with
          | false =>
            go_wp2
            go_roundg (l0.length - (i + 1))
            case measure => have := HLT.out; have := HKq.out; omega
            case rel =>
              have hlt := HLT.out
              have hle := HL.out
              have ht : l0.take (i + 1) = l0.take i ++ [x] := by rw [List.take_add_one, HX.out]; rfl
              have hf : (hpa_oth ((wrap64 a1).tmod 3) (l0.take (i + 1))) = (hpa_oth ((wrap64 a1).tmod 3) (l0.take i)) := by rw [ht]; unfold hpa_oth; rw [List.filter_append]; simp [hq]
              exact ⟨i + 1, inn, by rw [show wrap64 ((i : Int) + 1) = ((i + 1 : Nat) : Int) from by unfold wrap64; omega], ⟨by omega⟩, ⟨by omega⟩, ⟨by rw [hf]; exact HO.out⟩, ⟨by rw [hf]; exact HR.out⟩, HB⟩
          | true =>
            go_wp2_with (first | (at_builtin; refine print_append_cells (w0 := w) w.heap.size rfl _ _ 22 31 _ 13 120 rfl Try.underlying22 hpt_info rfl (by decide) (by decide) _ _ inn [.int .i64 x.f0, .int .i64 x.f1, .int .i64 x.f2, .int .i64 x.f3, .int .i64 x.f4, .int .i64 x.f5.f0, .int .u64 x.f5.f1, .int .u64 x.f5.f2, .int .i64 x.f5.f3, .int .i64 x.f6.f0, .bool x.f6.f1, .int .u64 x.f6.f2, .slice A12 x.f6.f3.length c12] (by rfl) (by rfl) rfl ?ap1 HO.out HB.out HB.out.size ?ap2 ?_; rotate_right; intro v1 w4 hown hbw hg hat; have HO1 := Aside0.mk hown; have HB1 := Aside0.mk hbw; clear hown hbw hg hat))
            case ap1 => simp [Value.oneCell']
            case ap2 =>
              have h1 : ((hpa_oth ((wrap64 a1).tmod 3) (l0.take i))).length ≤ 12 := by
                have h2 := List.length_filter_le (fun x : S31 => x.f0 != (wrap64 a1).tmod 3) (l0.take i)
                rw [List.length_take] at h2
                have := HL.out
                unfold hpa_oth
                omega
              omega
            go_roundg (l0.length - (i + 1))
            case measure => have := HLT.out; have := HKq.out; omega
            case rel =>
              have hlt := HLT.out
              have hle := HL.out
              have ht : l0.take (i + 1) = l0.take i ++ [x] := by rw [List.take_add_one, HX.out]; rfl
              have hf : (hpa_oth ((wrap64 a1).tmod 3) (l0.take (i + 1))) = (hpa_oth ((wrap64 a1).tmod 3) (l0.take i)) ++ [x] := by rw [ht]; unfold hpa_oth; rw [List.filter_append]; simp [hq]
              exact ⟨i + 1, _, by rw [show wrap64 ((i : Int) + 1) = ((i + 1 : Nat) : Int) from by unfold wrap64; omega], ⟨by omega⟩, ⟨by omega⟩, ⟨by rw [hf, List.length_append, List.length_singleton]; exact HO1.out⟩, ⟨by rw [hf]; exact HR.out.snoc HKx.out rfl⟩, HB1⟩
        · have hj : i = l0.length := by have := HJ.out; omega
          subst hj
          have hnlt : ¬ ((l0.length : Int) < (l0.length : Int)) := by omega
          rw [List.take_length] at HO HR
          obtain ⟨Ao, co, ho, hC⟩ := own_reads_row HO.out (HR.out.imp_ (R' := k31.K wr) (fun _ _ hp => k31.K_below HB.out hp)) rfl
          subst ho
          have hco : ((hpa_oth ((wrap64 a1).tmod 3) l0)).length ≤ co := by rcases HO.out.2 with ⟨he, h0⟩ | ⟨g, cap, cur, he, _, _, h3, _⟩ <;> injection he <;> omega
          have HCO := Aside0.mk (show Kd.C k31 wr Ao ((hpa_oth ((wrap64 a1).tmod 3) l0)).length ((hpa_oth ((wrap64 a1).tmod 3) l0)) from hC)
          have HCC := Aside0.mk hco
          clear HO HR hC hco
          generalize hM : (wrap64 a1).tmod (wrap64 ((l0.length : Int) + 1)) = M at *
          have hol : ((hpa_oth ((wrap64 a1).tmod 3) l0)).length ≤ 12 := by
            have h2 := List.length_filter_le (fun x : S31 => x.f0 != (wrap64 a1).tmod 3) l0
            have := HL.out
            unfold hpa_oth
            omega
          have HOL := Aside0.mk hol
          clear hol
          have HPL := Aside0.mk (List.length_filter_le (fun x : S31 => !history_Points1.f x) ((hpa_oth ((wrap64 a1).tmod 3) l0)))
          have hpl : ((((hpa_oth ((wrap64 a1).tmod 3) l0)).filter fun x => !history_Points1.f x).length : Int) ≤ (((hpa_oth ((wrap64 a1).tmod 3) l0)).length : Int) := by have := HPL.out; omega
          have HV1 := Aside0.mk (show ∀ W : World, Kd.C k31 W A0 l0.length l0 → Calls Try.prog 10 #[.slice A0 M.toNat c0] W (fun e w' => e = .returned (.bool true) ∧ Below W.heap.size W w') from fun W h => by
            have hl : (l0.take M.toNat).length = M.toNat := by rw [List.length_take]; have := HN.out; omega
            have h2 := history_Valid.calls k A0 c0 (l0.take M.toNat) true W (by rw [hl]; exact history_Valid.take h _ (by have := HN.out; omega)) (by rw [hl]; have := HN.out; have := HC0.out; omega) Hp.out
            rw [hl] at h2
            exact h2)
          have HBr := Aside0.mk (Below.refl wr.heap.size wr)
          go_wp2_with (first | (go_at_call 10; (with_reducible refine (HV1.out _ (Kd.C_below HR0.out HB.out)).mono ?_); rintro e w5 ⟨rfl, hb⟩; have n0_ := Aside0.mk (below_step HB.out hb); clear HB; have HB := n0_; clear n0_; have n0_ := Aside0.mk (below_step HBr.out hb); clear HBr hb; have HBr := n0_; clear n0_) | (go_at_call 10; (with_reducible refine (history_Valid.calls k Ao co ((hpa_oth ((wrap64 a1).tmod 3) l0)) true _ (Kd.C_below HCO.out HBr.out) HCC.out Hq.out).mono ?_); rintro e w6 ⟨rfl, hb⟩; have n0_ := Aside0.mk (below_step HB.out hb); clear HB; have HB := n0_; clear n0_; have n0_ := Aside0.mk (below_step HBr.out hb); clear HBr hb; have HBr := n0_; clear n0_) | (go_at_call 13; (with_reducible refine (history_Points.law Ao co ((hpa_oth ((wrap64 a1).tmod 3) l0)) _ (Kd.C_below HCO.out HBr.out) (Nat.le_trans HOL.out (by decide))).mono ?_); rintro e w7 ⟨Ap, cp, rfl, _, _, hb⟩; have n0_ := Aside0.mk (below_step HB.out hb); clear HB; have HB := n0_; clear n0_; have n0_ := Aside0.mk (below_step HBr.out hb); clear HBr hb; have HBr := n0_; clear n0_))
          case isFalse =>
            rename_i hbad
            exact absurd ⟨HN.out.1, by have := HN.out; have := HC0.out; omega⟩ hbad
          go_ret
          exact ⟨by first | rfl | (simp [*]; done), HB.out⟩


end Go.Proofs.Ytpcmoclohepdiad.PHistoryPart
