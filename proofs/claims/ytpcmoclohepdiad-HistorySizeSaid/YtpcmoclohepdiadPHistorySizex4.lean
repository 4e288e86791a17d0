-- Written by a program of this session: a variant of the print that takes proofs by hand (wip/tools/mkprint.py)
import Derived.Test.YtpcmoclohepdiadPHistorySizex0
import Derived.Test.YtpcmoclohepdiadPHistorySizex1
import Derived.Test.YtpcmoclohepdiadPHistorySizex2
import Derived.Test.YtpcmoclohepdiadPHistorySizex3
namespace Go.Proofs.Ytpcmoclohepdiad.PHistorySize
open Go.RowKit Go.Proofs.YtpcmoclohepdiadW.PrintWords Go.Proofs.YtpcmoclohepdiadW.PrintLast Go.Proofs.YtpcmoclohepdiadW.PrintMore
attribute [local go_sem] max2_int min2_int max_two min_two max_three min_three max_four min_four   -- for this text's walks alone
set_option linter.unusedVariables false
set_option linter.unusedSimpArgs false

/-! ### corrielaw19_HistorySize: function 6 (by hand) -/
theorem hsi_none {P : Program} {w : World} {ops : Array Oper} {rest : List Oper} {o : Oper} {a : Act} {Q : Exit → Act → World → Prop} (hgd : o.guard = none) (s x : Operand) (t : TypeId)
    (ho : o.op = .call { callee := .builtin .append, args := #[s, x], argTypes := #[t, t] })
    (base : Nat) (e : TypeId) (i : TypeInfo) (size : Nat) (ht : P.underlying t = some (.slice e)) (hi : P.info? e = some i)
    (v : Value) (n : Nat) (xs : List Value) (hown : w.ownsRow base e size v n xs) (c : Nat) (hs : a.eval s = v) (hx : a.eval x = .slice none 0 c)
    (h : w.ownsRow base e size v n xs → wpList P ops Q rest (a.put o.dst v) w) : wpList P ops Q (o :: rest) a w := by
  refine wpList_plain hgd fun K hK => ?_
  have hrun : (Builtin.append_ #[t, t] o.type #[v, .slice none 0 c]).run P w = .ok v w := by
    rcases hown.2 with ⟨rfl, rfl⟩ | ⟨g, cap, cur, rfl, _, _, hnc, _⟩
    · simp [Builtin.append_, run_underlying ht, sizeOf, typeInfo, hi, Builtin.lenOf, Builtin.firstCells]
    · simp [Builtin.append_, run_underlying ht, sizeOf, typeInfo, hi, Builtin.lenOf, Builtin.firstCells, hnc, storeCells]
  unfold Oper.wp
  simp [execOp, ho, resolve, invoke, builtin, hs, hx, hrun, Result.andThen]
  exact hK _ _ (h hown)
def hsl_f (low : Int) (x : S31) : Int := if x.f3 ≥ 0 then (if x.f3 < (if x.f2 < low then x.f2 else low) then x.f3 else (if x.f2 < low then x.f2 else low)) else (if x.f2 < low then x.f2 else low)
def corrielaw19_HistorySize.rest (k : Nat) (l0 : List S31) (a1 : Int) : Option Bool := (history_Size.f k (l0 ++ [(⟨0, 0, wrap64 a1, -1, 0, ⟨0, 0, 0, 0⟩, ⟨0, false, 0, []⟩⟩ : S31)]) (wrap64 a1)).bind fun p => (history_Size.f k l0 (wrap64 a1)).bind fun q => (history_Size.f k (l0 ++ [(⟨0, 0, wrap64 a1, -1, 0, ⟨0, 0, 0, 0⟩, ⟨0, false, 0, []⟩⟩ : S31)]) (wrap64 (wrap64 a1 - 1))).bind fun p2 => (history_Size.f k l0 (wrap64 (wrap64 a1 - 1))).bind fun q2 => if p = wrap64 (q + 1) ∧ p2 = q2 then some true else none
def corrielaw19_HistorySize.f (k : Nat) (l0 : List S31) (a1 : Int) : Option Bool := (corrieref19_Few.f k l0 12).bind fun z => if z = true then (if l0.length ≤ 12 then (if l0.foldl hsl_f 1000 < 1 then corrielaw19_HistorySize.rest k l0 a1 else (history_Size.f k l0 (wrap64 (l0.foldl hsl_f 1000 - 1))).bind fun s => if s = 0 then corrielaw19_HistorySize.rest k l0 a1 else none) else none) else some true
theorem corrielaw19_HistorySize.rest_mono (l0 : List S31) (a1 : Int) (k : Nat) : LeO (corrielaw19_HistorySize.rest k l0 a1) (corrielaw19_HistorySize.rest (k + 1) l0 a1) := LeO.bind (history_Size.mono _ _ _) (fun _ => LeO.bind (history_Size.mono _ _ _) (fun _ => LeO.bind (history_Size.mono _ _ _) (fun _ => LeO.bind (history_Size.mono _ _ _) (fun _ => LeO.refl _))))
theorem corrielaw19_HistorySize.mono : ∀ l0 a1 k, LeO (corrielaw19_HistorySize.f k l0 a1) (corrielaw19_HistorySize.f (k + 1) l0 a1) := by
  intros
  exact LeO.bind (corrieref19_Few.mono _ _ _) (fun _ => LeO.ite (LeO.ite (LeO.ite (corrielaw19_HistorySize.rest_mono _ _ _) (LeO.bind (history_Size.mono _ _ _) (fun _ => LeO.ite (corrielaw19_HistorySize.rest_mono _ _ _) (LeO.refl _)))) (LeO.refl _)) (LeO.refl _))
set_option maxHeartbeats 8000000 in
set_option maxRecDepth 100000 in
theorem corrielaw19_HistorySize.calls (k : Nat) (A0 : Option Addr) (c0 : Nat) (l0 : List S31) (a1 : Int) (r : Bool) (w : World) (hr0 : Kd.C k31 w A0 l0.length l0) (hc0 : l0.length ≤ c0) (h : corrielaw19_HistorySize.f k l0 a1 = some r) :
    Calls Try.prog 6 #[.slice A0 l0.length c0, .int .u8 a1] w fun e w' => e = .returned (.bool r) ∧ Below w.heap.size w w' := by
  have HR0 := Aside0.mk hr0
  have HC0 := Aside0.mk hc0
  have HB := Aside0.mk (Below.refl w.heap.size w)
  unfold corrielaw19_HistorySize.f at h
  obtain ⟨z, hz, h⟩ := Option.bind_eq_some_iff.mp h
  have Hz := Aside0.mk hz
  clear hz
  cases z with
  | false =>
    obtain rfl := Option.some.inj h
    clear h
    go_enter Try.func6, Try.ntmps6
    go_wp2_with (first | (go_at_call 8; (with_reducible refine (corrielaw19_awake.calls true _ rfl).mono ?_); rintro e w1 ⟨rfl, hb⟩; have n0_ := Aside0.mk (below_step HB.out hb); clear HB hb; have HB := n0_; clear n0_) | (go_at_call 9; (with_reducible refine (corrieref19_Few.calls k A0 c0 l0 12 false _ (Kd.C_below HR0.out HB.out) HC0.out Hz.out).mono ?_); rintro e w2 ⟨rfl, hd⟩; have hb := Drawn0.below hd; clear hd; have n0_ := Aside0.mk (below_step HB.out hb); clear HB hb; have HB := n0_; clear n0_))
    go_ret
    exact ⟨by first | rfl | (simp [*]; done), by repeat (first | (with_reducible first | exact HB.out | apply below_alloc | apply pw_below_drewN | apply below_drew1) | exact HB.out)⟩
  | true =>
    replace h := (if_pos (c := (true = true)) rfl).symm.trans h
    by_cases hl : l0.length ≤ 12
    rotate_left
    · rw [if_neg hl] at h
      cases h
    rw [if_pos hl] at h
    have HL := Aside0.mk hl
    have HH := Aside0.mk h
    clear hl h
    have HI0 := Aside0.mk (info_parts hpt_info)
    by_cases q1 : l0.foldl hsl_f 1000 < 1
    · have h := (if_pos q1).symm.trans HH.out
      have q1b : decide (l0.foldl hsl_f 1000 < 1) = true := decide_eq_true q1
      clear HH q1
      unfold corrielaw19_HistorySize.rest at h
      obtain ⟨p, hp, h⟩ := Option.bind_eq_some_iff.mp h
      obtain ⟨q, hq, h⟩ := Option.bind_eq_some_iff.mp h
      obtain ⟨p2, hp2, h⟩ := Option.bind_eq_some_iff.mp h
      obtain ⟨q2, hq2, h⟩ := Option.bind_eq_some_iff.mp h
      by_cases cc : p = wrap64 (q + 1) ∧ p2 = q2
      rotate_left
      · rw [if_neg cc] at h
        cases h
      rw [if_pos cc] at h
      obtain rfl := Option.some.inj h
      obtain ⟨rfl, rfl⟩ := cc
      have Hp := Aside0.mk hp
      have Hq := Aside0.mk hq
      have Hp2 := Aside0.mk hp2
      have Hq2 := Aside0.mk hq2
      clear h hp hq hp2 hq2
      have HSM := Aside0.mk (show ∀ (W : World) (A : Option Addr) (c : Nat) (at_ r : Int), Kd.C k31 W A (l0 ++ [(⟨0, 0, wrap64 a1, -1, 0, ⟨0, 0, 0, 0⟩, ⟨0, false, 0, []⟩⟩ : S31)]).length (l0 ++ [(⟨0, 0, wrap64 a1, -1, 0, ⟨0, 0, 0, 0⟩, ⟨0, false, 0, []⟩⟩ : S31)]) → (l0 ++ [(⟨0, 0, wrap64 a1, -1, 0, ⟨0, 0, 0, 0⟩, ⟨0, false, 0, []⟩⟩ : S31)]).length ≤ c → history_Size.f k (l0 ++ [(⟨0, 0, wrap64 a1, -1, 0, ⟨0, 0, 0, 0⟩, ⟨0, false, 0, []⟩⟩ : S31)]) at_ = some r → Calls Try.prog 15 #[.slice A (l0.length + 1) c, .int .i64 at_] W (fun e w' => e = .returned (.int .i64 r) ∧ Below W.heap.size W w') from fun W A c at_ r h1 h2 h3 => by
        have h4 := history_Size.calls k A c (l0 ++ [(⟨0, 0, wrap64 a1, -1, 0, ⟨0, 0, 0, 0⟩, ⟨0, false, 0, []⟩⟩ : S31)]) at_ r W h1 h2 h3
        rw [show (l0 ++ [(⟨0, 0, wrap64 a1, -1, 0, ⟨0, 0, 0, 0⟩, ⟨0, false, 0, []⟩⟩ : S31)]).length = l0.length + 1 from by simp] at h4
        exact h4)
      have HKE := Aside0.mk (show k31.K w (⟨0, 0, wrap64 a1, -1, 0, ⟨0, 0, 0, 0⟩, ⟨0, false, 0, []⟩⟩ : S31) [.int .i64 0, .int .i64 0, .int .i64 (wrap64 a1), .int .i64 (-1), .int .i64 0, .int .i64 0, .int .u64 0, .int .u64 0, .int .i64 0, .int .i64 0, .bool false, .int .u64 0, .slice none 0 0] from k31_mk (A12 := none) (c12 := 0) w (⟨0, 0, wrap64 a1, -1, 0, ⟨0, 0, 0, 0⟩, ⟨0, false, 0, []⟩⟩ : S31) (Nat.zero_le _) (Kd.C_nil _ _))
      cases A0 with
      | some ad0 =>
        obtain ⟨inner, hrep, hcell⟩ := ReadsRow.inner_ (show ReadsRow (k31.K w) 13 w (some ad0) l0.length l0 from hr0)
        have HRI := Aside0.mk hrep
        have HCE := Aside0.mk hcell
        clear hr0 hrep hcell hc0
        go_enter Try.func6, Try.ntmps6
        go_wp2_with (first | (go_at_call 8; (with_reducible refine (corrielaw19_awake.calls true _ rfl).mono ?_); rintro e w1 ⟨rfl, hb⟩; have n0_ := Aside0.mk (below_step HB.out hb); clear HB hb; have HB := n0_; clear n0_) | (go_at_call 9; (with_reducible refine (corrieref19_Few.calls k (some ad0) c0 l0 12 true _ (Kd.C_below HR0.out HB.out) HC0.out Hz.out).mono ?_); rintro e w2 ⟨rfl, hd⟩; have hb := Drawn0.below hd; clear hd; have n0_ := Aside0.mk (below_step HB.out hb); clear HB hb; have HB := n0_; clear n0_))
        go_loopg [6, 7] l0.length (fun kq v6 v7 wr => ∃ (i : Nat), v6 = .int .i64 ((l0.take i).foldl hsl_f 1000) ∧ v7 = .int .i64 i ∧ Aside0 (i ≤ l0.length) ∧ Aside0 (l0.length - i ≤ kq) ∧ Aside0 (Below w.heap.size w wr))
        case atStart => exact ⟨0, rfl, rfl, ⟨Nat.zero_le _⟩, ⟨by omega⟩, HB⟩
        case round =>
          clear HB
          obtain ⟨i, rfl, rfl, HJ, HKq, HB⟩ := hrel
          by_cases hlt : i < l0.length
          · have hltb : (i : Int) < (l0.length : Int) := by omega
            have HLT := Aside0.mk hlt
            obtain ⟨ad, A12, c12, e12, hx0, hx1, hx2, hx3, hx4, hx5, hx6, hx7, hx8, hx9, hx10, hx11, hx12, _, _⟩ := at_T31 (Kd.C_below HR0.out HB.out) (i : Int) (by omega) (by omega)
            cases e12
            have HX := Aside0.mk (hpt_rd l0 i hlt)
            simp only [Int.toNat_natCast] at hx2 hx3
            clear hx0 hx1 hx4 hx5 hx6 hx7 hx8 hx9 hx10 hx11 hx12
            generalize rd_T31 l0 (i : Int) = x at hx2 hx3 HX
            have HFO := Aside0.mk (show (l0.take (i + 1)).foldl hsl_f 1000 = hsl_f ((l0.take i).foldl hsl_f 1000) x from by rw [List.take_add_one, List.getElem?_eq_getElem HLT.out, ← HX.out, List.foldl_append]; rfl)
            generalize (l0.take i).foldl hsl_f 1000 = low at HFO ⊢
            by_cases d1 : x.f2 < low
            · by_cases d2 : 0 ≤ x.f3
              · by_cases d3 : x.f3 < x.f2
                · go_wp2
                  go_roundg (l0.length - (i + 1))
                  case measure => have := HLT.out; have := HKq.out; omega
                  case rel =>
                    have hlt := HLT.out
                    have hle := HL.out
                    exact ⟨i + 1, by rw [HFO.out]; congr 1; unfold hsl_f; (repeat' split) <;> omega, by rw [show wrap64 ((i : Int) + 1) = ((i + 1 : Nat) : Int) from by unfold wrap64; omega], ⟨by omega⟩, ⟨by omega⟩, HB⟩
                · go_wp2
                  go_roundg (l0.length - (i + 1))
                  case measure => have := HLT.out; have := HKq.out; omega
                  case rel =>
                    have hlt := HLT.out
                    have hle := HL.out
                    exact ⟨i + 1, by rw [HFO.out]; congr 1; unfold hsl_f; (repeat' split) <;> omega, by rw [show wrap64 ((i : Int) + 1) = ((i + 1 : Nat) : Int) from by unfold wrap64; omega], ⟨by omega⟩, ⟨by omega⟩, HB⟩
              · go_wp2
                go_roundg (l0.length - (i + 1))
                case measure => have := HLT.out; have := HKq.out; omega
                case rel =>
                  have hlt := HLT.out
                  have hle := HL.out
                  exact ⟨i + 1, by rw [HFO.out]; congr 1; unfold hsl_f; (repeat' split) <;> omega, by rw [show wrap64 ((i : Int) + 1) = ((i + 1 : Nat) : Int) from by unfold wrap64; omega], ⟨by omega⟩, ⟨by omega⟩, HB⟩
            · by_cases d2 : 0 ≤ x.f3
              · by_cases d3 : x.f3 < low
                · go_wp2
                  go_roundg (l0.length - (i + 1))
                  case measure => have := HLT.out; have := HKq.out; omega
                  case rel =>
                    have hlt := HLT.out
                    have hle := HL.out
                    exact ⟨i + 1, by rw [HFO.out]; congr 1; unfold hsl_f; (repeat' split) <;> omega, by rw [show wrap64 ((i : Int) + 1) = ((i + 1 : Nat) : Int) from by unfold wrap64; omega], ⟨by omega⟩, ⟨by omega⟩, HB⟩
                · go_wp2
                  go_roundg (l0.length - (i + 1))
                  case measure => have := HLT.out; have := HKq.out; omega
                  case rel =>
                    have hlt := HLT.out
                    have hle := HL.out
                    exact ⟨i + 1, by rw [HFO.out]; congr 1; unfold hsl_f; (repeat' split) <;> omega, by rw [show wrap64 ((i : Int) + 1) = ((i + 1 : Nat) : Int) from by unfold wrap64; omega], ⟨by omega⟩, ⟨by omega⟩, HB⟩
              · go_wp2
                go_roundg (l0.length - (i + 1))
                case measure => have := HLT.out; have := HKq.out; omega
                case rel =>
                  have hlt := HLT.out
                  have hle := HL.out
                  exact ⟨i + 1, by rw [HFO.out]; congr 1; unfold hsl_f; (repeat' split) <;> omega, by rw [show wrap64 ((i : Int) + 1) = ((i + 1 : Nat) : Int) from by unfold wrap64; omega], ⟨by omega⟩, ⟨by omega⟩, HB⟩
          · have hj : i = l0.length := by have := HJ.out; omega
            subst hj
            have hnlt : ¬ ((l0.length : Int) < (l0.length : Int)) := by omega
            rw [List.take_length]
            obtain ⟨i0, hi, hz0, hz1, hz2⟩ := HI0.out
            go_wp2_with (first | (at_builtin; refine wpList_append_own _ rfl _ _ 22 rfl w.heap.size 31 i0 (.agg #[(.int .i64 0), (.int .i64 0), (.int .i64 0), (.int .i64 0), (.int .i64 0), (.int .i64 0), (.int .u64 0), (.int .u64 0), (.int .i64 0), (.int .i64 0), (.bool false), (.int .u64 0), (.slice none 0 0)]) 13 120 Try.underlying22 hi hz0 hz1 hz2 rfl (by decide) _ _ _ (by rfl) (World.ownsRow_made (e := 31) (base := w.heap.size) wr #[] 0 HB.out.size (Nat.zero_le _) rfl) ad0 l0.length c0 inner (by rfl) ?qc1 ?qc2 ?qc3 ?qc4 ?qc5 ?qc6 ?_; rotate_right; intro v1 w5 hown hgrow hnil; have HO5 := Aside0.mk (show w5.ownsRow w.heap.size 31 13 v1 l0.length inner from by simpa using hown); have n0_ := Aside0.mk (((HB.out.alloc HB.out.size _).grown hgrow (Nat.le_trans HB.out.size (by simp)) (by intro k hk; simp [Value.ownBlock] at hk; have := HB.out.size; omega))); clear HB hown hgrow hnil; have HB := n0_; clear n0_) | (at_builtin; refine print_append_cells (w0 := w) w.heap.size rfl _ _ 22 31 _ 13 120 rfl Try.underlying22 hpt_info rfl (by decide) (by decide) _ _ inner [.int .i64 0, .int .i64 0, .int .i64 (wrap64 a1), .int .i64 (-1), .int .i64 0, .int .i64 0, .int .u64 0, .int .u64 0, .int .i64 0, .int .i64 0, .bool false, .int .u64 0, .slice none 0 0] (by rfl) (by rfl) rfl ?ap1 HO5.out HB.out HB.out.size ?ap2 ?_; rotate_right; intro v2 w6 hown hbw hg hat; obtain ⟨Ao, co, ho, hC⟩ := own_reads_row (ps := (l0 ++ [(⟨0, 0, wrap64 a1, -1, 0, ⟨0, 0, 0, 0⟩, ⟨0, false, 0, []⟩⟩ : S31)])) hown ((HRI.out.snoc (HKE.out) rfl).imp_ (R' := k31.K w6) (fun _ _ hp => k31.K_below hbw hp)) (by simp); subst ho; have HCO := Aside0.mk (show Kd.C k31 w6 Ao (l0 ++ [(⟨0, 0, wrap64 a1, -1, 0, ⟨0, 0, 0, 0⟩, ⟨0, false, 0, []⟩⟩ : S31)]).length (l0 ++ [(⟨0, 0, wrap64 a1, -1, 0, ⟨0, 0, 0, 0⟩, ⟨0, false, 0, []⟩⟩ : S31)]) from by rw [show (l0 ++ [(⟨0, 0, wrap64 a1, -1, 0, ⟨0, 0, 0, 0⟩, ⟨0, false, 0, []⟩⟩ : S31)]).length = l0.length + 1 from by simp]; exact hC); have HCC := Aside0.mk (show (l0 ++ [(⟨0, 0, wrap64 a1, -1, 0, ⟨0, 0, 0, 0⟩, ⟨0, false, 0, []⟩⟩ : S31)]).length ≤ co from by rw [show (l0 ++ [(⟨0, 0, wrap64 a1, -1, 0, ⟨0, 0, 0, 0⟩, ⟨0, false, 0, []⟩⟩ : S31)]).length = l0.length + 1 from by simp]; rcases hown.2 with ⟨he, h0⟩ | ⟨g, cap, cur, he, _, _, h3, _⟩ <;> injection he <;> omega); clear HB hown hg hat hC HO5; have HB := Aside0.mk hbw; clear hbw; have HBr := Aside0.mk (Below.refl w6.heap.size w6)) | (go_at_call 15; (with_reducible refine (HSM.out _ Ao co (wrap64 a1) (wrap64 (q + 1)) (Kd.C_below HCO.out HBr.out) HCC.out Hp.out).mono ?_); rintro e w8 ⟨rfl, hb⟩; have n0_ := Aside0.mk (below_step HB.out hb); clear HB; have HB := n0_; clear n0_; have n0_ := Aside0.mk (below_step HBr.out hb); clear HBr hb; have HBr := n0_; clear n0_) | (go_at_call 15; (with_reducible refine (history_Size.calls k (some ad0) c0 l0 (wrap64 a1) q _ (Kd.C_below HR0.out HB.out) HC0.out Hq.out).mono ?_); rintro e w9 ⟨rfl, hb⟩; have n0_ := Aside0.mk (below_step HB.out hb); clear HB; have HB := n0_; clear n0_; have n0_ := Aside0.mk (below_step HBr.out hb); clear HBr hb; have HBr := n0_; clear n0_) | (go_at_call 15; (with_reducible refine (HSM.out _ Ao co (wrap64 (wrap64 a1 - 1)) p2 (Kd.C_below HCO.out HBr.out) HCC.out Hp2.out).mono ?_); rintro e w10 ⟨rfl, hb⟩; have n0_ := Aside0.mk (below_step HB.out hb); clear HB; have HB := n0_; clear n0_; have n0_ := Aside0.mk (below_step HBr.out hb); clear HBr hb; have HBr := n0_; clear n0_) | (go_at_call 15; (with_reducible refine (history_Size.calls k (some ad0) c0 l0 (wrap64 (wrap64 a1 - 1)) p2 _ (Kd.C_below HR0.out HB.out) HC0.out Hq2.out).mono ?_); rintro e w11 ⟨rfl, hb⟩; have n0_ := Aside0.mk (below_step HB.out hb); clear HB; have HB := n0_; clear n0_; have n0_ := Aside0.mk (below_step HBr.out hb); clear HBr hb; have HBr := n0_; clear n0_))
            case qc1 => have := HRI.out.1; omega
            case qc2 =>
              intro j u hj
              have hx := pw_cell_below HB.out (HCE.out j u hj)
              exact ((below_alloc (Below.refl _ _) _).cell (World.block_lt_of_cell? wr _ hx)).trans hx
            case qc3 =>
              intro u hu
              obtain ⟨j, hj⟩ := List.getElem?_of_mem hu
              exact evOne HRI.out j u hj
            case qc4 => have := HL.out; unfold maxLen; omega
            case qc5 => have := HL.out; omega
            case qc6 => have := HB.out.size; simp; omega
            case ap1 => simp [Value.oneCell']
            case ap2 => have := HL.out; simp; omega
            go_ret
            exact ⟨by first | rfl | (simp [*]; done), HB.out⟩
      | none =>
        have hz : l0 = [] := by
          rcases Nat.eq_zero_or_pos l0.length with h0 | h0
          · exact List.eq_nil_of_length_eq_zero h0
          · obtain ⟨ad, e, _⟩ := hr0.2.2 h0
            cases e
        have HZ := Aside0.mk hz
        have HRI := Aside0.mk (show Reps (k31.K w) 13 l0 ([] : List Value) from by rw [hz]; exact Reps.none _ _)
        clear hr0 hc0 hz
        go_enter Try.func6, Try.ntmps6
        go_wp2_with (first | (go_at_call 8; (with_reducible refine (corrielaw19_awake.calls true _ rfl).mono ?_); rintro e w1 ⟨rfl, hb⟩; have n0_ := Aside0.mk (below_step HB.out hb); clear HB hb; have HB := n0_; clear n0_) | (go_at_call 9; (with_reducible refine (corrieref19_Few.calls k none c0 l0 12 true _ (Kd.C_below HR0.out HB.out) HC0.out Hz.out).mono ?_); rintro e w2 ⟨rfl, hd⟩; have hb := Drawn0.below hd; clear hd; have n0_ := Aside0.mk (below_step HB.out hb); clear HB hb; have HB := n0_; clear n0_))
        go_loopg [6, 7] l0.length (fun kq v6 v7 wr => ∃ (i : Nat), v6 = .int .i64 ((l0.take i).foldl hsl_f 1000) ∧ v7 = .int .i64 i ∧ Aside0 (i ≤ l0.length) ∧ Aside0 (l0.length - i ≤ kq) ∧ Aside0 (Below w.heap.size w wr))
        case atStart => exact ⟨0, rfl, rfl, ⟨Nat.zero_le _⟩, ⟨by omega⟩, HB⟩
        case round =>
          clear HB
          obtain ⟨i, rfl, rfl, HJ, HKq, HB⟩ := hrel
          by_cases hlt : i < l0.length
          · exact absurd hlt (by rw [HZ.out]; simp)
          · have hj : i = l0.length := by have := HJ.out; omega
            subst hj
            have hnlt : ¬ ((l0.length : Int) < (l0.length : Int)) := by omega
            rw [List.take_length]
            obtain ⟨i0, hi, hz0, hz1, hz2⟩ := HI0.out
            go_wp2_with (first | (at_builtin; refine hsi_none rfl _ _ 22 rfl w.heap.size 31 i0 13 Try.underlying22 hi _ 0 [] (World.ownsRow_made (e := 31) (base := w.heap.size) wr #[] 0 HB.out.size (Nat.zero_le _) rfl) c0 (by rfl) (show Value.slice none l0.length c0 = _ from by rw [HZ.out]; rfl) ?_; intro hown; have HO5 := Aside0.mk (show (wr.alloc (.cells #[] 31)).ownsRow w.heap.size 31 13 (.slice (some ⟨wr.heap.size, 0, none⟩) 0 0) l0.length [] from by rw [HZ.out]; exact hown); have n0_ := Aside0.mk (HB.out.alloc HB.out.size (.cells #[] 31)); clear HB hown; have HB := n0_; clear n0_; generalize wr.alloc (.cells #[] 31) = w5 at HO5 HB ⊢) | (at_builtin; refine print_append_cells (w0 := w) w.heap.size rfl _ _ 22 31 _ 13 120 rfl Try.underlying22 hpt_info rfl (by decide) (by decide) _ _ [] [.int .i64 0, .int .i64 0, .int .i64 (wrap64 a1), .int .i64 (-1), .int .i64 0, .int .i64 0, .int .u64 0, .int .u64 0, .int .i64 0, .int .i64 0, .bool false, .int .u64 0, .slice none 0 0] (by rfl) (by rfl) rfl ?ap1 HO5.out HB.out HB.out.size ?ap2 ?_; rotate_right; intro v2 w6 hown hbw hg hat; obtain ⟨Ao, co, ho, hC⟩ := own_reads_row (ps := (l0 ++ [(⟨0, 0, wrap64 a1, -1, 0, ⟨0, 0, 0, 0⟩, ⟨0, false, 0, []⟩⟩ : S31)])) hown ((HRI.out.snoc (HKE.out) rfl).imp_ (R' := k31.K w6) (fun _ _ hp => k31.K_below hbw hp)) (by simp); subst ho; have HCO := Aside0.mk (show Kd.C k31 w6 Ao (l0 ++ [(⟨0, 0, wrap64 a1, -1, 0, ⟨0, 0, 0, 0⟩, ⟨0, false, 0, []⟩⟩ : S31)]).length (l0 ++ [(⟨0, 0, wrap64 a1, -1, 0, ⟨0, 0, 0, 0⟩, ⟨0, false, 0, []⟩⟩ : S31)]) from by rw [show (l0 ++ [(⟨0, 0, wrap64 a1, -1, 0, ⟨0, 0, 0, 0⟩, ⟨0, false, 0, []⟩⟩ : S31)]).length = l0.length + 1 from by simp]; exact hC); have HCC := Aside0.mk (show (l0 ++ [(⟨0, 0, wrap64 a1, -1, 0, ⟨0, 0, 0, 0⟩, ⟨0, false, 0, []⟩⟩ : S31)]).length ≤ co from by rw [show (l0 ++ [(⟨0, 0, wrap64 a1, -1, 0, ⟨0, 0, 0, 0⟩, ⟨0, false, 0, []⟩⟩ : S31)]).length = l0.length + 1 from by simp]; rcases hown.2 with ⟨he, h0⟩ | ⟨g, cap, cur, he, _, _, h3, _⟩ <;> injection he <;> omega); clear HB hown hg hat hC HO5; have HB := Aside0.mk hbw; clear hbw; have HBr := Aside0.mk (Below.refl w6.heap.size w6)) | (go_at_call 15; (with_reducible refine (HSM.out _ Ao co (wrap64 a1) (wrap64 (q + 1)) (Kd.C_below HCO.out HBr.out) HCC.out Hp.out).mono ?_); rintro e w8 ⟨rfl, hb⟩; have n0_ := Aside0.mk (below_step HB.out hb); clear HB; have HB := n0_; clear n0_; have n0_ := Aside0.mk (below_step HBr.out hb); clear HBr hb; have HBr := n0_; clear n0_) | (go_at_call 15; (with_reducible refine (history_Size.calls k none c0 l0 (wrap64 a1) q _ (Kd.C_below HR0.out HB.out) HC0.out Hq.out).mono ?_); rintro e w9 ⟨rfl, hb⟩; have n0_ := Aside0.mk (below_step HB.out hb); clear HB; have HB := n0_; clear n0_; have n0_ := Aside0.mk (below_step HBr.out hb); clear HBr hb; have HBr := n0_; clear n0_) | (go_at_call 15; (with_reducible refine (HSM.out _ Ao co (wrap64 (wrap64 a1 - 1)) p2 (Kd.C_below HCO.out HBr.out) HCC.out Hp2.out).mono ?_); rintro e w10 ⟨rfl, hb⟩; have n0_ := Aside0.mk (below_step HB.out hb); clear HB; have HB := n0_; clear n0_; have n0_ := Aside0.mk (below_step HBr.out hb); clear HBr hb; have HBr := n0_; clear n0_) | (go_at_call 15; (with_reducible refine (history_Size.calls k none c0 l0 (wrap64 (wrap64 a1 - 1)) p2 _ (Kd.C_below HR0.out HB.out) HC0.out Hq2.out).mono ?_); rintro e w11 ⟨rfl, hb⟩; have n0_ := Aside0.mk (below_step HB.out hb); clear HB; have HB := n0_; clear n0_; have n0_ := Aside0.mk (below_step HBr.out hb); clear HBr hb; have HBr := n0_; clear n0_))
            case ap1 => simp [Value.oneCell']
            case ap2 => have := HL.out; simp; omega
            go_ret
            exact ⟨by first | rfl | (simp [*]; done), HB.out⟩
    · have h := (if_neg q1).symm.trans HH.out
      have q1b : decide (l0.foldl hsl_f 1000 < 1) = false := decide_eq_false q1
      clear HH q1
      obtain ⟨s, hs, h⟩ := Option.bind_eq_some_iff.mp h
      by_cases hs0 : s = 0
      rotate_left
      · rw [if_neg hs0] at h
        cases h
      rw [if_pos hs0] at h
      subst hs0
      have Hs := Aside0.mk hs
      clear hs
      unfold corrielaw19_HistorySize.rest at h
      obtain ⟨p, hp, h⟩ := Option.bind_eq_some_iff.mp h
      obtain ⟨q, hq, h⟩ := Option.bind_eq_some_iff.mp h
      obtain ⟨p2, hp2, h⟩ := Option.bind_eq_some_iff.mp h
      obtain ⟨q2, hq2, h⟩ := Option.bind_eq_some_iff.mp h
      by_cases cc : p = wrap64 (q + 1) ∧ p2 = q2
      rotate_left
      · rw [if_neg cc] at h
        cases h
      rw [if_pos cc] at h
      obtain rfl := Option.some.inj h
      obtain ⟨rfl, rfl⟩ := cc
      have Hp := Aside0.mk hp
      have Hq := Aside0.mk hq
      have Hp2 := Aside0.mk hp2
      have Hq2 := Aside0.mk hq2
      clear h hp hq hp2 hq2
      have HSM := Aside0.mk (show ∀ (W : World) (A : Option Addr) (c : Nat) (at_ r : Int), Kd.C k31 W A (l0 ++ [(⟨0, 0, wrap64 a1, -1, 0, ⟨0, 0, 0, 0⟩, ⟨0, false, 0, []⟩⟩ : S31)]).length (l0 ++ [(⟨0, 0, wrap64 a1, -1, 0, ⟨0, 0, 0, 0⟩, ⟨0, false, 0, []⟩⟩ : S31)]) → (l0 ++ [(⟨0, 0, wrap64 a1, -1, 0, ⟨0, 0, 0, 0⟩, ⟨0, false, 0, []⟩⟩ : S31)]).length ≤ c → history_Size.f k (l0 ++ [(⟨0, 0, wrap64 a1, -1, 0, ⟨0, 0, 0, 0⟩, ⟨0, false, 0, []⟩⟩ : S31)]) at_ = some r → Calls Try.prog 15 #[.slice A (l0.length + 1) c, .int .i64 at_] W (fun e w' => e = .returned (.int .i64 r) ∧ Below W.heap.size W w') from fun W A c at_ r h1 h2 h3 => by
        have h4 := history_Size.calls k A c (l0 ++ [(⟨0, 0, wrap64 a1, -1, 0, ⟨0, 0, 0, 0⟩, ⟨0, false, 0, []⟩⟩ : S31)]) at_ r W h1 h2 h3
        rw [show (l0 ++ [(⟨0, 0, wrap64 a1, -1, 0, ⟨0, 0, 0, 0⟩, ⟨0, false, 0, []⟩⟩ : S31)]).length = l0.length + 1 from by simp] at h4
        exact h4)
      have HKE := Aside0.mk (show k31.K w (⟨0, 0, wrap64 a1, -1, 0, ⟨0, 0, 0, 0⟩, ⟨0, false, 0, []⟩⟩ : S31) [.int .i64 0, .int .i64 0, .int .i64 (wrap64 a1), .int .i64 (-1), .int .i64 0, .int .i64 0, .int .u64 0, .int .u64 0, .int .i64 0, .int .i64 0, .bool false, .int .u64 0, .slice none 0 0] from k31_mk (A12 := none) (c12 := 0) w (⟨0, 0, wrap64 a1, -1, 0, ⟨0, 0, 0, 0⟩, ⟨0, false, 0, []⟩⟩ : S31) (Nat.zero_le _) (Kd.C_nil _ _))
      cases A0 with
      | some ad0 =>
        obtain ⟨inner, hrep, hcell⟩ := ReadsRow.inner_ (show ReadsRow (k31.K w) 13 w (some ad0) l0.length l0 from hr0)
        have HRI := Aside0.mk hrep
        have HCE := Aside0.mk hcell
        clear hr0 hrep hcell hc0
        go_enter Try.func6, Try.ntmps6
        go_wp2_with (first | (go_at_call 8; (with_reducible refine (corrielaw19_awake.calls true _ rfl).mono ?_); rintro e w1 ⟨rfl, hb⟩; have n0_ := Aside0.mk (below_step HB.out hb); clear HB hb; have HB := n0_; clear n0_) | (go_at_call 9; (with_reducible refine (corrieref19_Few.calls k (some ad0) c0 l0 12 true _ (Kd.C_below HR0.out HB.out) HC0.out Hz.out).mono ?_); rintro e w2 ⟨rfl, hd⟩; have hb := Drawn0.below hd; clear hd; have n0_ := Aside0.mk (below_step HB.out hb); clear HB hb; have HB := n0_; clear n0_))
        go_loopg [6, 7] l0.length (fun kq v6 v7 wr => ∃ (i : Nat), v6 = .int .i64 ((l0.take i).foldl hsl_f 1000) ∧ v7 = .int .i64 i ∧ Aside0 (i ≤ l0.length) ∧ Aside0 (l0.length - i ≤ kq) ∧ Aside0 (Below w.heap.size w wr))
        case atStart => exact ⟨0, rfl, rfl, ⟨Nat.zero_le _⟩, ⟨by omega⟩, HB⟩
        case round =>
          clear HB
          obtain ⟨i, rfl, rfl, HJ, HKq, HB⟩ := hrel
          by_cases hlt : i < l0.length
          · have hltb : (i : Int) < (l0.length : Int) := by omega
            have HLT := Aside0.mk hlt
            obtain ⟨ad, A12, c12, e12, hx0, hx1, hx2, hx3, hx4, hx5, hx6, hx7, hx8, hx9, hx10, hx11, hx12, _, _⟩ := at_T31 (Kd.C_below HR0.out HB.out) (i : Int) (by omega) (by omega)
            cases e12
            have HX := Aside0.mk (hpt_rd l0 i hlt)
            simp only [Int.toNat_natCast] at hx2 hx3
            clear hx0 hx1 hx4 hx5 hx6 hx7 hx8 hx9 hx10 hx11 hx12
            generalize rd_T31 l0 (i : Int) = x at hx2 hx3 HX
            have HFO := Aside0.mk (show (l0.take (i + 1)).foldl hsl_f 1000 = hsl_f ((l0.take i).foldl hsl_f 1000) x from by rw [List.take_add_one, List.getElem?_eq_getElem HLT.out, ← HX.out, List.foldl_append]; rfl)
            generalize (l0.take i).foldl hsl_f 1000 = low at HFO ⊢
            by_cases d1 : x.f2 < low
            · by_cases d2 : 0 ≤ x.f3
              · by_cases d3 : x.f3 < x.f2
                · go_wp2
                  go_roundg (l0.length - (i + 1))
                  case measure => have := HLT.out; have := HKq.out; omega
                  case rel =>
                    have hlt := HLT.out
                    have hle := HL.out
                    exact ⟨i + 1, by rw [HFO.out]; congr 1; unfold hsl_f; (repeat' split) <;> omega, by rw [show wrap64 ((i : Int) + 1) = ((i + 1 : Nat) : Int) from by unfold wrap64; omega], ⟨by omega⟩, ⟨by omega⟩, HB⟩
                · go_wp2
                  go_roundg (l0.length - (i + 1))
                  case measure => have := HLT.out; have := HKq.out; omega
                  case rel =>
                    have hlt := HLT.out
                    have hle := HL.out
                    exact ⟨i + 1, by rw [HFO.out]; congr 1; unfold hsl_f; (repeat' split) <;> omega, by rw [show wrap64 ((i : Int) + 1) = ((i + 1 : Nat) : Int) from by unfold wrap64; omega], ⟨by omega⟩, ⟨by omega⟩, HB⟩
              · go_wp2
                go_roundg (l0.length - (i + 1))
                case measure => have := HLT.out; have := HKq.out; omega
                case rel =>
                  have hlt := HLT.out
                  have hle := HL.out
                  exact ⟨i + 1, by rw [HFO.out]; congr 1; unfold hsl_f; (repeat' split) <;> omega, by rw [show wrap64 ((i : Int) + 1) = ((i + 1 : Nat) : Int) from by unfold wrap64; omega], ⟨by omega⟩, ⟨by omega⟩, HB⟩
            · by_cases d2 : 0 ≤ x.f3
              · by_cases d3 : x.f3 < low
                · go_wp2
                  go_roundg (l0.length - (i + 1))
                  case measure => have := HLT.out; have := HKq.out; omega
                  case rel =>
                    have hlt := HLT.out
                    have hle := HL.out
                    exact ⟨i + 1, by rw [HFO.out]; congr 1; unfold hsl_f; (repeat' split) <;> omega, by rw [show wrap64 ((i : Int) + 1) = ((i + 1 : Nat) : Int) from by unfold wrap64; omega], ⟨by omega⟩, ⟨by omega⟩, HB⟩
                · go_wp2
                  go_roundg (l0.length - (i + 1))
                  case measure => have := HLT.out; have := HKq.out; omega
                  case rel =>
                    have hlt := HLT.out
                    have hle := HL.out
                    exact ⟨i + 1, by rw [HFO.out]; congr 1; unfold hsl_f; (repeat' split) <;> omega, by rw [show wrap64 ((i : Int) + 1) = ((i + 1 : Nat) : Int) from by unfold wrap64; omega], ⟨by omega⟩, ⟨by omega⟩, HB⟩
              · go_wp2
                go_roundg (l0.length - (i + 1))
                case measure => have := HLT.out; have := HKq.out; omega
                case rel =>
                  have hlt := HLT.out
                  have hle := HL.out
                  exact ⟨i + 1, by rw [HFO.out]; congr 1; unfold hsl_f; (repeat' split) <;> omega, by rw [show wrap64 ((i : Int) + 1) = ((i + 1 : Nat) : Int) from by unfold wrap64; omega], ⟨by omega⟩, ⟨by omega⟩, HB⟩
          · have hj : i = l0.length := by have := HJ.out; omega
            subst hj
            have hnlt : ¬ ((l0.length : Int) < (l0.length : Int)) := by omega
            rw [List.take_length]
            obtain ⟨i0, hi, hz0, hz1, hz2⟩ := HI0.out
            go_wp2_with (first | (at_builtin; refine wpList_append_own _ rfl _ _ 22 rfl w.heap.size 31 i0 (.agg #[(.int .i64 0), (.int .i64 0), (.int .i64 0), (.int .i64 0), (.int .i64 0), (.int .i64 0), (.int .u64 0), (.int .u64 0), (.int .i64 0), (.int .i64 0), (.bool false), (.int .u64 0), (.slice none 0 0)]) 13 120 Try.underlying22 hi hz0 hz1 hz2 rfl (by decide) _ _ _ (by rfl) (World.ownsRow_made (e := 31) (base := w.heap.size) wr #[] 0 HB.out.size (Nat.zero_le _) rfl) ad0 l0.length c0 inner (by rfl) ?qc1 ?qc2 ?qc3 ?qc4 ?qc5 ?qc6 ?_; rotate_right; intro v1 w5 hown hgrow hnil; have HO5 := Aside0.mk (show w5.ownsRow w.heap.size 31 13 v1 l0.length inner from by simpa using hown); have n0_ := Aside0.mk (((HB.out.alloc HB.out.size _).grown hgrow (Nat.le_trans HB.out.size (by simp)) (by intro k hk; simp [Value.ownBlock] at hk; have := HB.out.size; omega))); clear HB hown hgrow hnil; have HB := n0_; clear n0_) | (at_builtin; refine print_append_cells (w0 := w) w.heap.size rfl _ _ 22 31 _ 13 120 rfl Try.underlying22 hpt_info rfl (by decide) (by decide) _ _ inner [.int .i64 0, .int .i64 0, .int .i64 (wrap64 a1), .int .i64 (-1), .int .i64 0, .int .i64 0, .int .u64 0, .int .u64 0, .int .i64 0, .int .i64 0, .bool false, .int .u64 0, .slice none 0 0] (by rfl) (by rfl) rfl ?ap1 HO5.out HB.out HB.out.size ?ap2 ?_; rotate_right; intro v2 w6 hown hbw hg hat; obtain ⟨Ao, co, ho, hC⟩ := own_reads_row (ps := (l0 ++ [(⟨0, 0, wrap64 a1, -1, 0, ⟨0, 0, 0, 0⟩, ⟨0, false, 0, []⟩⟩ : S31)])) hown ((HRI.out.snoc (HKE.out) rfl).imp_ (R' := k31.K w6) (fun _ _ hp => k31.K_below hbw hp)) (by simp); subst ho; have HCO := Aside0.mk (show Kd.C k31 w6 Ao (l0 ++ [(⟨0, 0, wrap64 a1, -1, 0, ⟨0, 0, 0, 0⟩, ⟨0, false, 0, []⟩⟩ : S31)]).length (l0 ++ [(⟨0, 0, wrap64 a1, -1, 0, ⟨0, 0, 0, 0⟩, ⟨0, false, 0, []⟩⟩ : S31)]) from by rw [show (l0 ++ [(⟨0, 0, wrap64 a1, -1, 0, ⟨0, 0, 0, 0⟩, ⟨0, false, 0, []⟩⟩ : S31)]).length = l0.length + 1 from by simp]; exact hC); have HCC := Aside0.mk (show (l0 ++ [(⟨0, 0, wrap64 a1, -1, 0, ⟨0, 0, 0, 0⟩, ⟨0, false, 0, []⟩⟩ : S31)]).length ≤ co from by rw [show (l0 ++ [(⟨0, 0, wrap64 a1, -1, 0, ⟨0, 0, 0, 0⟩, ⟨0, false, 0, []⟩⟩ : S31)]).length = l0.length + 1 from by simp]; rcases hown.2 with ⟨he, h0⟩ | ⟨g, cap, cur, he, _, _, h3, _⟩ <;> injection he <;> omega); clear HB hown hg hat hC HO5; have HB := Aside0.mk hbw; clear hbw; have HBr := Aside0.mk (Below.refl w6.heap.size w6)) | (go_at_call 15; (with_reducible refine (history_Size.calls k (some ad0) c0 l0 (wrap64 (l0.foldl hsl_f 1000 - 1)) 0 _ (Kd.C_below HR0.out HB.out) HC0.out Hs.out).mono ?_); rintro e w7 ⟨rfl, hb⟩; have n0_ := Aside0.mk (below_step HB.out hb); clear HB; have HB := n0_; clear n0_; have n0_ := Aside0.mk (below_step HBr.out hb); clear HBr hb; have HBr := n0_; clear n0_) | (go_at_call 15; (with_reducible refine (HSM.out _ Ao co (wrap64 a1) (wrap64 (q + 1)) (Kd.C_below HCO.out HBr.out) HCC.out Hp.out).mono ?_); rintro e w8 ⟨rfl, hb⟩; have n0_ := Aside0.mk (below_step HB.out hb); clear HB; have HB := n0_; clear n0_; have n0_ := Aside0.mk (below_step HBr.out hb); clear HBr hb; have HBr := n0_; clear n0_) | (go_at_call 15; (with_reducible refine (history_Size.calls k (some ad0) c0 l0 (wrap64 a1) q _ (Kd.C_below HR0.out HB.out) HC0.out Hq.out).mono ?_); rintro e w9 ⟨rfl, hb⟩; have n0_ := Aside0.mk (below_step HB.out hb); clear HB; have HB := n0_; clear n0_; have n0_ := Aside0.mk (below_step HBr.out hb); clear HBr hb; have HBr := n0_; clear n0_) | (go_at_call 15; (with_reducible refine (HSM.out _ Ao co (wrap64 (wrap64 a1 - 1)) p2 (Kd.C_below HCO.out HBr.out) HCC.out Hp2.out).mono ?_); rintro e w10 ⟨rfl, hb⟩; have n0_ := Aside0.mk (below_step HB.out hb); clear HB; have HB := n0_; clear n0_; have n0_ := Aside0.mk (below_step HBr.out hb); clear HBr hb; have HBr := n0_; clear n0_) | (go_at_call 15; (with_reducible refine (history_Size.calls k (some ad0) c0 l0 (wrap64 (wrap64 a1 - 1)) p2 _ (Kd.C_below HR0.out HB.out) HC0.out Hq2.out).mono ?_); rintro e w11 ⟨rfl, hb⟩; have n0_ := Aside0.mk (below_step HB.out hb); clear HB; have HB := n0_; clear n0_; have n0_ := Aside0.mk (below_step HBr.out hb); clear HBr hb; have HBr := n0_; clear n0_))
            case qc1 => have := HRI.out.1; omega
            case qc2 =>
              intro j u hj
              have hx := pw_cell_below HB.out (HCE.out j u hj)
              exact ((below_alloc (Below.refl _ _) _).cell (World.block_lt_of_cell? wr _ hx)).trans hx
            case qc3 =>
              intro u hu
              obtain ⟨j, hj⟩ := List.getElem?_of_mem hu
              exact evOne HRI.out j u hj
            case qc4 => have := HL.out; unfold maxLen; omega
            case qc5 => have := HL.out; omega
            case qc6 => have := HB.out.size; simp; omega
            case ap1 => simp [Value.oneCell']
            case ap2 => have := HL.out; simp; omega
            go_ret
            exact ⟨by first | rfl | (simp [*]; done), HB.out⟩
      | none =>
        have hz : l0 = [] := by
          rcases Nat.eq_zero_or_pos l0.length with h0 | h0
          · exact List.eq_nil_of_length_eq_zero h0
          · obtain ⟨ad, e, _⟩ := hr0.2.2 h0
            cases e
        have HZ := Aside0.mk hz
        have HRI := Aside0.mk (show Reps (k31.K w) 13 l0 ([] : List Value) from by rw [hz]; exact Reps.none _ _)
        clear hr0 hc0 hz
        go_enter Try.func6, Try.ntmps6
        go_wp2_with (first | (go_at_call 8; (with_reducible refine (corrielaw19_awake.calls true _ rfl).mono ?_); rintro e w1 ⟨rfl, hb⟩; have n0_ := Aside0.mk (below_step HB.out hb); clear HB hb; have HB := n0_; clear n0_) | (go_at_call 9; (with_reducible refine (corrieref19_Few.calls k none c0 l0 12 true _ (Kd.C_below HR0.out HB.out) HC0.out Hz.out).mono ?_); rintro e w2 ⟨rfl, hd⟩; have hb := Drawn0.below hd; clear hd; have n0_ := Aside0.mk (below_step HB.out hb); clear HB hb; have HB := n0_; clear n0_))
        go_loopg [6, 7] l0.length (fun kq v6 v7 wr => ∃ (i : Nat), v6 = .int .i64 ((l0.take i).foldl hsl_f 1000) ∧ v7 = .int .i64 i ∧ Aside0 (i ≤ l0.length) ∧ Aside0 (l0.length - i ≤ kq) ∧ Aside0 (Below w.heap.size w wr))
        case atStart => exact ⟨0, rfl, rfl, ⟨Nat.zero_le _⟩, ⟨by omega⟩, HB⟩
        case round =>
          clear HB
          obtain ⟨i, rfl, rfl, HJ, HKq, HB⟩ := hrel
          by_cases hlt : i < l0.length
          · exact absurd hlt (by rw [HZ.out]; simp)
          · have hj : i = l0.length := by have := HJ.out; omega
            subst hj
            have hnlt : ¬ ((l0.length : Int) < (l0.length : Int)) := by omega
            rw [List.take_length]
            obtain ⟨i0, hi, hz0, hz1, hz2⟩ := HI0.out
            go_wp2_with (first | (at_builtin; refine hsi_none rfl _ _ 22 rfl w.heap.size 31 i0 13 Try.underlying22 hi _ 0 [] (World.ownsRow_made (e := 31) (base := w.heap.size) wr #[] 0 HB.out.size (Nat.zero_le _) rfl) c0 (by rfl) (show Value.slice none l0.length c0 = _ from by rw [HZ.out]; rfl) ?_; intro hown; have HO5 := Aside0.mk (show (wr.alloc (.cells #[] 31)).ownsRow w.heap.size 31 13 (.slice (some ⟨wr.heap.size, 0, none⟩) 0 0) l0.length [] from by rw [HZ.out]; exact hown); have n0_ := Aside0.mk (HB.out.alloc HB.out.size (.cells #[] 31)); clear HB hown; have HB := n0_; clear n0_; generalize wr.alloc (.cells #[] 31) = w5 at HO5 HB ⊢) | (at_builtin; refine print_append_cells (w0 := w) w.heap.size rfl _ _ 22 31 _ 13 120 rfl Try.underlying22 hpt_info rfl (by decide) (by decide) _ _ [] [.int .i64 0, .int .i64 0, .int .i64 (wrap64 a1), .int .i64 (-1), .int .i64 0, .int .i64 0, .int .u64 0, .int .u64 0, .int .i64 0, .int .i64 0, .bool false, .int .u64 0, .slice none 0 0] (by rfl) (by rfl) rfl ?ap1 HO5.out HB.out HB.out.size ?ap2 ?_; rotate_right; intro v2 w6 hown hbw hg hat; obtain ⟨Ao, co, ho, hC⟩ := own_reads_row (ps := (l0 ++ [(⟨0, 0, wrap64 a1, -1, 0, ⟨0, 0, 0, 0⟩, ⟨0, false, 0, []⟩⟩ : S31)])) hown ((HRI.out.snoc (HKE.out) rfl).imp_ (R' := k31.K w6) (fun _ _ hp => k31.K_below hbw hp)) (by simp); subst ho; have HCO := Aside0.mk (show Kd.C k31 w6 Ao (l0 ++ [(⟨0, 0, wrap64 a1, -1, 0, ⟨0, 0, 0, 0⟩, ⟨0, false, 0, []⟩⟩ : S31)]).length (l0 ++ [(⟨0, 0, wrap64 a1, -1, 0, ⟨0, 0, 0, 0⟩, ⟨0, false, 0, []⟩⟩ : S31)]) from by rw [show (l0 ++ [(⟨0, 0, wrap64 a1, -1, 0, ⟨0, 0, 0, 0⟩, ⟨0, false, 0, []⟩⟩ : S31)]).length = l0.length + 1 from by simp]; exact hC); have HCC := Aside0.mk (show (l0 ++ [(⟨0, 0, wrap64 a1, -1, 0, ⟨0, 0, 0, 0⟩, ⟨0, false, 0, []⟩⟩ : S31)]).length ≤ co from by rw [show (l0 ++ [(⟨0, 0, wrap64 a1, -1, 0, ⟨0, 0, 0, 0⟩, ⟨0, false, 0, []⟩⟩ : S31)]).length = l0.length + 1 from by simp]; rcases hown.2 with ⟨he, h0⟩ | ⟨g, cap, cur, he, _, _, h3, _⟩ <;> injection he <;> omega); clear HB hown hg hat hC HO5; have HB := Aside0.mk hbw; clear hbw; have HBr := Aside0.mk (Below.refl w6.heap.size w6)) | (go_at_call 15; (with_reducible refine (history_Size.calls k none c0 l0 (wrap64 (l0.foldl hsl_f 1000 - 1)) 0 _ (Kd.C_below HR0.out HB.out) HC0.out Hs.out).mono ?_); rintro e w7 ⟨rfl, hb⟩; have n0_ := Aside0.mk (below_step HB.out hb); clear HB; have HB := n0_; clear n0_; have n0_ := Aside0.mk (below_step HBr.out hb); clear HBr hb; have HBr := n0_; clear n0_) | (go_at_call 15; (with_reducible refine (HSM.out _ Ao co (wrap64 a1) (wrap64 (q + 1)) (Kd.C_below HCO.out HBr.out) HCC.out Hp.out).mono ?_); rintro e w8 ⟨rfl, hb⟩; have n0_ := Aside0.mk (below_step HB.out hb); clear HB; have HB := n0_; clear n0_; have n0_ := Aside0.mk (below_step HBr.out hb); clear HBr hb; have HBr := n0_; clear n0_) | (go_at_call 15; (with_reducible refine (history_Size.calls k none c0 l0 (wrap64 a1) q _ (Kd.C_below HR0.out HB.out) HC0.out Hq.out).mono ?_); rintro e w9 ⟨rfl, hb⟩; have n0_ := Aside0.mk (below_step HB.out hb); clear HB; have HB := n0_; clear n0_; have n0_ := Aside0.mk (below_step HBr.out hb); clear HBr hb; have HBr := n0_; clear n0_) | (go_at_call 15; (with_reducible refine (HSM.out _ Ao co (wrap64 (wrap64 a1 - 1)) p2 (Kd.C_below HCO.out HBr.out) HCC.out Hp2.out).mono ?_); rintro e w10 ⟨rfl, hb⟩; have n0_ := Aside0.mk (below_step HB.out hb); clear HB; have HB := n0_; clear n0_; have n0_ := Aside0.mk (below_step HBr.out hb); clear HBr hb; have HBr := n0_; clear n0_) | (go_at_call 15; (with_reducible refine (history_Size.calls k none c0 l0 (wrap64 (wrap64 a1 - 1)) p2 _ (Kd.C_below HR0.out HB.out) HC0.out Hq2.out).mono ?_); rintro e w11 ⟨rfl, hb⟩; have n0_ := Aside0.mk (below_step HB.out hb); clear HB; have HB := n0_; clear n0_; have n0_ := Aside0.mk (below_step HBr.out hb); clear HBr hb; have HBr := n0_; clear n0_))
            case ap1 => simp [Value.oneCell']
            case ap2 => have := HL.out; simp; omega
            go_ret
            exact ⟨by first | rfl | (simp [*]; done), HB.out⟩


end Go.Proofs.Ytpcmoclohepdiad.PHistorySize
