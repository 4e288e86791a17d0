-- Written by a program of this session: a variant of the print that takes proofs by hand (wip/tools/mkprint.py)
import Derived.Test.YtahifbdggbeajacPRouteSpreadx0
namespace Go.Proofs.Ytahifbdggbeajac.PRouteSpread
open Go.RowKit Go.Proofs.YtahifbdggbeajacW.PrintWords Go.Proofs.YtahifbdggbeajacW.PrintLast Go.Proofs.YtahifbdggbeajacW.PrintMore
attribute [local go_sem] max2_int min2_int max_two min_two max_three min_three max_four min_four   -- for this text's walks alone
set_option linter.unusedVariables false
set_option linter.unusedSimpArgs false

/-! ### bits_Len32: function 15 (by hand) -/



/-! ### bits_Len64: function 16 (by hand) -/



/-! ### bits_Len: function 13 (by hand) -/
def bits_Len.f (a0 : Int) : Option Int := if a0 = 1 then some 1 else if a0 = 2 then some 2 else if a0 = 4 then some 3 else if a0 = 8 then some 4 else if a0 = 16 then some 5 else if a0 = 32 then some 6 else if a0 = 64 then some 7 else none
theorem bits_Len.cases {a0 r : Int} (h : bits_Len.f a0 = some r) : (a0 = 1 ∧ r = 1) ∨ (a0 = 2 ∧ r = 2) ∨ (a0 = 4 ∧ r = 3) ∨ (a0 = 8 ∧ r = 4) ∨ (a0 = 16 ∧ r = 5) ∨ (a0 = 32 ∧ r = 6) ∨ (a0 = 64 ∧ r = 7) := by
  unfold bits_Len.f at h
  repeat' (split at h)
  all_goals first | (have := Option.some.inj h; omega) | cases h
set_option maxHeartbeats 8000000 in
set_option maxRecDepth 100000 in
theorem bits_Len.calls (a0 : Int) (r : Int) (w : World) (h : bits_Len.f a0 = some r) :
    Calls Try.prog 13 #[.int .u64 a0] w fun e w' => e = .returned (.int .i64 r) ∧ Drawn0 w w' := by
  rcases bits_Len.cases h with ⟨rfl, rfl⟩ | ⟨rfl, rfl⟩ | ⟨rfl, rfl⟩ | ⟨rfl, rfl⟩ | ⟨rfl, rfl⟩ | ⟨rfl, rfl⟩ | ⟨rfl, rfl⟩
  all_goals
    clear h
    go_enter Try.func13, Try.ntmps13
    go_wp2
    go_ret
    refine ⟨?_, by repeat (first | exact Drawn0.refl _ | apply Drawn0.step)⟩
    kernel_rfl


/-! ### route_May: function 9 -/
def route_May.l0 : Nat → Int → Int → Int → Option (Bool)
  | 0, _, _, _ => none
  | k + 1, x0, x4, x5 => if x5 < x4 then (if 0 ≤ x5 then (if x0 = (shl .i64 1 x5) then (some true) else (route_May.l0 k x0 x4 (wrap64 (x5 + 1)))) else (none)) else (some false)
def route_May.f (k : Nat) (a0 : Int) : Option (Bool) := (bits_Len.f 64).bind fun t101 => (route_May.l0 k a0 t101 0)
theorem route_May.mono_l : ∀ k, (∀ y0 y1 y2, LeO (route_May.l0 k y0 y1 y2) (route_May.l0 (k + 1) y0 y1 y2))
  | 0 => fun _ _ _ r h => by simp [route_May.l0] at h
  | k + 1 => by
    have ih0 := route_May.mono_l k
    · intro y0 y1 y2
      unfold route_May.l0
      repeat' first
      | (with_reducible exact ih0 _ _ _)
      | (with_reducible exact LeO.refl _)
      | (with_reducible exact LeO.none _)
      | (with_reducible refine LeO.ite ?_ ?_)
      | (with_reducible refine LeO.bind ?_ (fun _ => ?_))
      | exact ih0 _ _ _
      | exact LeO.none _
      | refine LeO.ite ?_ ?_
      | refine LeO.bind ?_ (fun _ => ?_)
theorem route_May.mono : ∀ a0 k, LeO (route_May.f k a0) (route_May.f (k + 1) a0) := by
  intro a0 k
  have ih0 := route_May.mono_l k
  unfold route_May.f
  repeat' first
      | (with_reducible exact ih0 _ _ _)
      | (with_reducible exact LeO.refl _)
      | (with_reducible exact LeO.none _)
      | (with_reducible refine LeO.ite ?_ ?_)
      | (with_reducible refine LeO.bind ?_ (fun _ => ?_))
      | exact ih0 _ _ _
      | exact LeO.none _
      | refine LeO.ite ?_ ?_
      | refine LeO.bind ?_ (fun _ => ?_)
set_option maxHeartbeats 8000000 in
set_option maxRecDepth 100000 in
theorem route_May.calls (k : Nat) (a0 : Int) (r : Bool) (w : World) (h : route_May.f k a0 = some r) :
    Calls Try.prog 9 #[.int .i64 a0] w fun e w' => e = .returned (.bool r) ∧ Drawn0 w w' := by
  have H : ((bits_Len.f 64).bind fun t101 => (route_May.l0 k a0 t101 0)) = some r := h
  clear h
  replace H := Option.bind_eq_some_iff.mp H
  obtain ⟨t101, A20, H⟩ := H
  replace H : (route_May.l0 k a0 t101 0) = some r := H
  have A2 := Aside0.mk A20
  clear A20
  have H' := Aside0.mk H
  clear H
  go_enter Try.func9, Try.ntmps9
  go_wp2_with (first | ((with_reducible refine gate_callee (f := 13) rfl ?_); refine goesL_ (some 4) rfl rfl Try.func13 (by kernel_rfl) rfl #[.int .u64 64] rfl (by (try simp only [List.map_toArray, List.map_cons, List.map_nil]); first | done | rfl | (simp only [List.length_drop, List.length_take]; rfl)) ?_; (with_reducible refine (bits_Len.calls 64 t101 _ A2.out).mono ?_); rintro e w' ⟨rfl, ⟨nd, rfl⟩⟩; refine ⟨_, rfl, ?_⟩))
  go_loopg [5] k (fun kq v5 w' => ∃ (x5_1 : Int), v5 = .int .i64 x5_1 ∧ Aside0 (route_May.l0 kq a0 t101 x5_1 = some r) ∧ Aside0 (kq ≤ k) ∧ Drawn0 w w')
  case atStart => exact ⟨(0), (by first | rfl | (simp; done) | (simp [*]; done)), H', ⟨Nat.le_refl _⟩, by repeat (first | exact Drawn0.refl _ | apply Drawn0.step)⟩
  case round =>
    clear H'
    try clear c1
    try clear p2
    obtain ⟨x5_1, rfl, HA, HK1, ⟨m1, rfl⟩⟩ := hrel
    cases gk with
    | zero => exact absurd HA.out (by simp [route_May.l0])
    | succ k1 =>
      have H := HA.out
      clear HA
      simp only [route_May.l0] at H
      by_cases c3 : x5_1 < t101
      · rw [if_pos c3] at H
        have c3b0 : decide (x5_1 < t101) = true := decide_eq_true c3
        clear c3
        by_cases c4 : 0 ≤ x5_1
        · rw [if_pos c4] at H
          have c4b0 := eq_true c4
          have c4b1 : decide (0 ≤ x5_1) = true := decide_eq_true c4
          clear c4
          obtain ⟨ji5, hji5⟩ : ∃ j_ : Int, (shl .i64 1 x5_1) = j_ := ⟨_, rfl⟩
          replace H : (if a0 = (ji5) then (some true) else (route_May.l0 k1 a0 t101 (wrap64 (x5_1 + 1)))) = some r := by first | (rw [hji5] at H; exact H) | (simp only [hji5] at H ⊢; exact H)
          have hji5_ : (IntKind.i64.wrap (1 * 2 ^ min x5_1.toNat 64)) = ji5 := hji5
          have hji5z : x5_1 ≤ 64 → (IntKind.i64.wrap (1 * 2 ^ x5_1.toNat)) = ji5 := shl_small hji5
          have hji5u : (IntKind.i64.wrap (2 ^ min x5_1.toNat 64)) = ji5 := by have h_ := hji5_; rw [Int.one_mul] at h_; exact h_
          have hji5v : x5_1 ≤ 64 → (IntKind.i64.wrap (2 ^ x5_1.toNat)) = ji5 := fun hle_ => by have h_ := hji5z hle_; rw [Int.one_mul] at h_; exact h_
          have hji5y : (wrap64 (1 * 2 ^ min x5_1.toNat 64)) = ji5 := (i64_w _).symm.trans hji5_
          have hji5x : x5_1 ≤ 64 → (wrap64 (1 * 2 ^ x5_1.toNat)) = ji5 := fun h_ => (i64_w _).symm.trans (hji5z h_)
          by_cases c6 : a0 = (ji5)
          · rw [if_pos c6] at H
            have c6b0 : (a0 == (ji5)) = true := beq_iff_eq.mpr c6
            have c6b1 : (a0 != (ji5)) = false := bne_eq_false_iff_eq.mpr c6
            clear c6
            obtain rfl := Option.some.inj H
            go_wp2
            go_ret
            exact ⟨by first | rfl | (simp; done) | (simp only [← hji5] <;> (first | rfl | simp)) | (simp [*]; done), by repeat (first | exact Drawn0.refl _ | apply Drawn0.step)⟩
          · rw [if_neg c6] at H
            have c6b0 : (a0 == (ji5)) = false := beq_eq_false_iff_ne.mpr c6
            have c6b1 : (a0 != (ji5)) = true := bne_iff_ne.mpr c6
            have H' := Aside0.mk H
            clear H
            go_wp2
            go_roundg k1
            case measure => have := HK1.out; omega
            case rel => exact ⟨(wrap64 (x5_1 + 1)), (by first | rfl | (simp; done) | (simp [*]; done)), H', ⟨by have := HK1.out; omega⟩, by repeat (first | exact Drawn0.refl _ | apply Drawn0.step)⟩
        · rw [if_neg c4] at H
          exact absurd H (by simp)
      · rw [if_neg c3] at H
        have c3b0 : decide (x5_1 < t101) = false := decide_eq_false c3
        clear c3
        obtain rfl := Option.some.inj H
        go_wp2
        go_ret
        exact ⟨by first | rfl | (simp; done) | (simp [*]; done), by repeat (first | exact Drawn0.refl _ | apply Drawn0.step)⟩

/-! ### route_Bucket: function 11 (by hand) -/
def route_top (u b : Int) : Option Int :=
  if b = 1 then some (wrap64 (u / 18446744073709551616)) else if b = 2 then some (wrap64 (u / 9223372036854775808)) else if b = 4 then some (wrap64 (u / 4611686018427387904)) else if b = 8 then some (wrap64 (u / 2305843009213693952)) else if b = 16 then some (wrap64 (u / 1152921504606846976)) else if b = 32 then some (wrap64 (u / 576460752303423488)) else if b = 64 then some (wrap64 (u / 288230376151711744)) else none
theorem route_top.cases {u b r : Int} (h : route_top u b = some r) : (b = 1 ∧ r = wrap64 (u / 18446744073709551616)) ∨ (b = 2 ∧ r = wrap64 (u / 9223372036854775808)) ∨ (b = 4 ∧ r = wrap64 (u / 4611686018427387904)) ∨ (b = 8 ∧ r = wrap64 (u / 2305843009213693952)) ∨ (b = 16 ∧ r = wrap64 (u / 1152921504606846976)) ∨ (b = 32 ∧ r = wrap64 (u / 576460752303423488)) ∨ (b = 64 ∧ r = wrap64 (u / 288230376151711744)) := by
  unfold route_top at h
  repeat' (split at h)
  all_goals first | (have := (Option.some.inj h).symm; simp_all; done) | cases h
def route_Bucket.f (k : Nat) (a0 : Int) (a1 : Int) : Option (Int) := (route_May.f k a1).bind fun m => if m = true then (route_top (IntKind.u64.wrap (a0 * 11400714819323198485)) a1) else some 0
theorem route_Bucket.mono : ∀ a0 a1 k, LeO (route_Bucket.f k a0 a1) (route_Bucket.f (k + 1) a0 a1) := by
  intro a0 a1 k
  unfold route_Bucket.f
  exact LeO.bind (route_May.mono _ _) (fun _ => LeO.refl _)
set_option maxHeartbeats 8000000 in
set_option maxRecDepth 100000 in
theorem route_Bucket.calls (k : Nat) (a0 : Int) (a1 : Int) (r : Int) (w : World) (h : route_Bucket.f k a0 a1 = some r) :
    Calls Try.prog 11 #[.int .u64 a0, .int .i64 a1] w fun e w' => e = .returned (.int .i64 r) ∧ Below w.heap.size w w' := by
  have hmf : ∀ (fn : Fn) (first cap : Array Value) (w : World), (Instr.makeFunc fn first cap).run Try.prog w = .ok (.func fn first cap) w := fun _ _ _ _ => rfl
  obtain ⟨m, hm, h⟩ := Option.bind_eq_some_iff.mp h
  have Hm := Aside0.mk hm
  clear hm
  cases m
  · have hr : r = 0 := (Option.some.inj h).symm
    subst hr
    clear h
    go_enter Try.func11, Try.ntmps11
    go_wp2_with (go_at_call 9; (with_reducible refine (route_May.calls k a1 false _ Hm.out).mono ?_); rintro e w1 ⟨rfl, ⟨n, rfl⟩⟩)
    go_ret
    exact ⟨rfl, by repeat (first | exact Below.refl _ _ | apply below_drew | apply pw_below_drewN | apply below_alloc)⟩
  · rw [if_pos rfl] at h
    rcases route_top.cases h with ⟨rfl, hr⟩ | ⟨rfl, hr⟩ | ⟨rfl, hr⟩ | ⟨rfl, hr⟩ | ⟨rfl, hr⟩ | ⟨rfl, hr⟩ | ⟨rfl, hr⟩
    · have Hr := Aside0.mk hr
      clear h hr
      go_enter Try.func11, Try.ntmps11
      go_wp2_with (first | (go_at_call 9; (with_reducible refine (route_May.calls k _ true _ Hm.out).mono ?_); rintro e w1 ⟨rfl, ⟨n, rfl⟩⟩) | (go_at_call 13; (with_reducible refine (bits_Len.calls _ 1 _ (by decide)).mono ?_); rintro e w1 ⟨rfl, ⟨n, rfl⟩⟩) | (go_at_call 14; go_in))
      go_ret
      exact ⟨by rw [Hr.out]; rfl, by repeat (first | exact Below.refl _ _ | apply below_drew | apply pw_below_drewN | apply below_alloc)⟩
    · have Hr := Aside0.mk hr
      clear h hr
      go_enter Try.func11, Try.ntmps11
      go_wp2_with (first | (go_at_call 9; (with_reducible refine (route_May.calls k _ true _ Hm.out).mono ?_); rintro e w1 ⟨rfl, ⟨n, rfl⟩⟩) | (go_at_call 13; (with_reducible refine (bits_Len.calls _ 2 _ (by decide)).mono ?_); rintro e w1 ⟨rfl, ⟨n, rfl⟩⟩) | (go_at_call 14; go_in))
      go_ret
      exact ⟨by rw [Hr.out]; rfl, by repeat (first | exact Below.refl _ _ | apply below_drew | apply pw_below_drewN | apply below_alloc)⟩
    · have Hr := Aside0.mk hr
      clear h hr
      go_enter Try.func11, Try.ntmps11
      go_wp2_with (first | (go_at_call 9; (with_reducible refine (route_May.calls k _ true _ Hm.out).mono ?_); rintro e w1 ⟨rfl, ⟨n, rfl⟩⟩) | (go_at_call 13; (with_reducible refine (bits_Len.calls _ 3 _ (by decide)).mono ?_); rintro e w1 ⟨rfl, ⟨n, rfl⟩⟩) | (go_at_call 14; go_in))
      go_ret
      exact ⟨by rw [Hr.out]; rfl, by repeat (first | exact Below.refl _ _ | apply below_drew | apply pw_below_drewN | apply below_alloc)⟩
    · have Hr := Aside0.mk hr
      clear h hr
      go_enter Try.func11, Try.ntmps11
      go_wp2_with (first | (go_at_call 9; (with_reducible refine (route_May.calls k _ true _ Hm.out).mono ?_); rintro e w1 ⟨rfl, ⟨n, rfl⟩⟩) | (go_at_call 13; (with_reducible refine (bits_Len.calls _ 4 _ (by decide)).mono ?_); rintro e w1 ⟨rfl, ⟨n, rfl⟩⟩) | (go_at_call 14; go_in))
      go_ret
      exact ⟨by rw [Hr.out]; rfl, by repeat (first | exact Below.refl _ _ | apply below_drew | apply pw_below_drewN | apply below_alloc)⟩
    · have Hr := Aside0.mk hr
      clear h hr
      go_enter Try.func11, Try.ntmps11
      go_wp2_with (first | (go_at_call 9; (with_reducible refine (route_May.calls k _ true _ Hm.out).mono ?_); rintro e w1 ⟨rfl, ⟨n, rfl⟩⟩) | (go_at_call 13; (with_reducible refine (bits_Len.calls _ 5 _ (by decide)).mono ?_); rintro e w1 ⟨rfl, ⟨n, rfl⟩⟩) | (go_at_call 14; go_in))
      go_ret
      exact ⟨by rw [Hr.out]; rfl, by repeat (first | exact Below.refl _ _ | apply below_drew | apply pw_below_drewN | apply below_alloc)⟩
    · have Hr := Aside0.mk hr
      clear h hr
      go_enter Try.func11, Try.ntmps11
      go_wp2_with (first | (go_at_call 9; (with_reducible refine (route_May.calls k _ true _ Hm.out).mono ?_); rintro e w1 ⟨rfl, ⟨n, rfl⟩⟩) | (go_at_call 13; (with_reducible refine (bits_Len.calls _ 6 _ (by decide)).mono ?_); rintro e w1 ⟨rfl, ⟨n, rfl⟩⟩) | (go_at_call 14; go_in))
      go_ret
      exact ⟨by rw [Hr.out]; rfl, by repeat (first | exact Below.refl _ _ | apply below_drew | apply pw_below_drewN | apply below_alloc)⟩
    · have Hr := Aside0.mk hr
      clear h hr
      go_enter Try.func11, Try.ntmps11
      go_wp2_with (first | (go_at_call 9; (with_reducible refine (route_May.calls k _ true _ Hm.out).mono ?_); rintro e w1 ⟨rfl, ⟨n, rfl⟩⟩) | (go_at_call 13; (with_reducible refine (bits_Len.calls _ 7 _ (by decide)).mono ?_); rintro e w1 ⟨rfl, ⟨n, rfl⟩⟩) | (go_at_call 14; go_in))
      go_ret
      exact ⟨by rw [Hr.out]; rfl, by repeat (first | exact Below.refl _ _ | apply below_drew | apply pw_below_drewN | apply below_alloc)⟩


/-! ### corrielaw03_awake: function 8 -/
def corrielaw03_awake.f (k : Nat)  : Option (Bool) := (route_Bucket.f k 1 2).bind fun t102 => (if t102 = 1 then ((route_Bucket.f k 2 2).bind fun t103 => (if t103 = 0 then ((route_Bucket.f k 1 64).bind fun t104 => (if t104 = 39 then ((route_Bucket.f k 9 1).bind fun t105 => (if t105 = 0 then ((route_May.f k 8).bind fun t106 => (if t106 = true then ((route_May.f k 3).bind fun t107 => (if t107 = true then (some false) else ((route_May.f k 128).bind fun t108 => (some (!t108))))) else (some false))) else (some false))) else (some false))) else (some false))) else (some false))
theorem corrielaw03_awake.mono : ∀ k, LeO (corrielaw03_awake.f k ) (corrielaw03_awake.f (k + 1) ) := by
  intro  k
  unfold corrielaw03_awake.f
  repeat' first
      | (with_reducible exact route_Bucket.mono _ _ _)
      | (with_reducible exact route_May.mono _ _)
      | (with_reducible exact LeO.refl _)
      | (with_reducible exact LeO.none _)
      | (with_reducible refine LeO.ite ?_ ?_)
      | (with_reducible refine LeO.bind ?_ (fun _ => ?_))
      | exact route_Bucket.mono _ _ _
      | exact route_May.mono _ _
      | exact LeO.none _
      | refine LeO.ite ?_ ?_
      | refine LeO.bind ?_ (fun _ => ?_)
set_option maxHeartbeats 8000000 in
set_option maxRecDepth 100000 in
theorem corrielaw03_awake.calls (k : Nat)  (r : Bool) (w : World) (h : corrielaw03_awake.f k  = some r) :
    Calls Try.prog 8 #[] w fun e w' => e = .returned (.bool r) ∧ Below w.heap.size w w' := by
  have HB := Aside0.mk (Below.refl w.heap.size w)
  have H : ((route_Bucket.f k 1 2).bind fun t102 => (if t102 = 1 then ((route_Bucket.f k 2 2).bind fun t103 => (if t103 = 0 then ((route_Bucket.f k 1 64).bind fun t104 => (if t104 = 39 then ((route_Bucket.f k 9 1).bind fun t105 => (if t105 = 0 then ((route_May.f k 8).bind fun t106 => (if t106 = true then ((route_May.f k 3).bind fun t107 => (if t107 = true then (some false) else ((route_May.f k 128).bind fun t108 => (some (!t108))))) else (some false))) else (some false))) else (some false))) else (some false))) else (some false))) = some r := h
  clear h
  replace H := Option.bind_eq_some_iff.mp H
  obtain ⟨t102, A10, H⟩ := H
  replace H : (if t102 = 1 then ((route_Bucket.f k 2 2).bind fun t103 => (if t103 = 0 then ((route_Bucket.f k 1 64).bind fun t104 => (if t104 = 39 then ((route_Bucket.f k 9 1).bind fun t105 => (if t105 = 0 then ((route_May.f k 8).bind fun t106 => (if t106 = true then ((route_May.f k 3).bind fun t107 => (if t107 = true then (some false) else ((route_May.f k 128).bind fun t108 => (some (!t108))))) else (some false))) else (some false))) else (some false))) else (some false))) else (some false)) = some r := H
  have A1 := Aside0.mk A10
  clear A10
  by_cases c2 : t102 = 1
  · rw [if_pos c2] at H
    have c2b0 : (t102 == 1) = true := beq_iff_eq.mpr c2
    have c2b1 : (t102 != 1) = false := bne_eq_false_iff_eq.mpr c2
    clear c2
    replace H := Option.bind_eq_some_iff.mp H
    obtain ⟨t103, A30, H⟩ := H
    replace H : (if t103 = 0 then ((route_Bucket.f k 1 64).bind fun t104 => (if t104 = 39 then ((route_Bucket.f k 9 1).bind fun t105 => (if t105 = 0 then ((route_May.f k 8).bind fun t106 => (if t106 = true then ((route_May.f k 3).bind fun t107 => (if t107 = true then (some false) else ((route_May.f k 128).bind fun t108 => (some (!t108))))) else (some false))) else (some false))) else (some false))) else (some false)) = some r := H
    have A3 := Aside0.mk A30
    clear A30
    by_cases c4 : t103 = 0
    · rw [if_pos c4] at H
      have c4b0 : (t103 == 0) = true := beq_iff_eq.mpr c4
      have c4b1 : (t103 != 0) = false := bne_eq_false_iff_eq.mpr c4
      clear c4
      replace H := Option.bind_eq_some_iff.mp H
      obtain ⟨t104, A50, H⟩ := H
      replace H : (if t104 = 39 then ((route_Bucket.f k 9 1).bind fun t105 => (if t105 = 0 then ((route_May.f k 8).bind fun t106 => (if t106 = true then ((route_May.f k 3).bind fun t107 => (if t107 = true then (some false) else ((route_May.f k 128).bind fun t108 => (some (!t108))))) else (some false))) else (some false))) else (some false)) = some r := H
      have A5 := Aside0.mk A50
      clear A50
      by_cases c6 : t104 = 39
      · rw [if_pos c6] at H
        have c6b0 : (t104 == 39) = true := beq_iff_eq.mpr c6
        have c6b1 : (t104 != 39) = false := bne_eq_false_iff_eq.mpr c6
        clear c6
        replace H := Option.bind_eq_some_iff.mp H
        obtain ⟨t105, A70, H⟩ := H
        replace H : (if t105 = 0 then ((route_May.f k 8).bind fun t106 => (if t106 = true then ((route_May.f k 3).bind fun t107 => (if t107 = true then (some false) else ((route_May.f k 128).bind fun t108 => (some (!t108))))) else (some false))) else (some false)) = some r := H
        have A7 := Aside0.mk A70
        clear A70
        by_cases c8 : t105 = 0
        · rw [if_pos c8] at H
          have c8b0 : (t105 == 0) = true := beq_iff_eq.mpr c8
          have c8b1 : (t105 != 0) = false := bne_eq_false_iff_eq.mpr c8
          clear c8
          replace H := Option.bind_eq_some_iff.mp H
          obtain ⟨t106, A90, H⟩ := H
          replace H : (if t106 = true then ((route_May.f k 3).bind fun t107 => (if t107 = true then (some false) else ((route_May.f k 128).bind fun t108 => (some (!t108))))) else (some false)) = some r := H
          have A9 := Aside0.mk A90
          clear A90
          by_cases c10 : t106 = true
          · subst c10
            have H1 : ((route_May.f k 3).bind fun t107 => (if t107 = true then (some false) else ((route_May.f k 128).bind fun t108 => (some (!t108))))) = some r := by rw [if_pos rfl] at H; exact H
            clear H
            have H := H1
            clear H1
            replace H := Option.bind_eq_some_iff.mp H
            obtain ⟨t107, A110, H⟩ := H
            replace H : (if t107 = true then (some false) else ((route_May.f k 128).bind fun t108 => (some (!t108)))) = some r := H
            have A11 := Aside0.mk A110
            clear A110
            by_cases c12 : t107 = true
            · subst c12
              have H1 : (some false) = some r := by rw [if_pos rfl] at H; exact H
              clear H
              have H := H1
              clear H1
              obtain rfl := Option.some.inj H
              go_enter Try.func8, Try.ntmps8
              go_wp2_with (first | ((with_reducible refine gate_callee (f := 11) rfl ?_); refine goesL_ (some 1) rfl rfl Try.func11 (by kernel_rfl) rfl #[.int .u64 1, .int .i64 2] rfl (by (try simp only [List.map_toArray, List.map_cons, List.map_nil]); first | done | rfl | (simp only [List.length_drop, List.length_take]; rfl)) ?_; (with_reducible refine (route_Bucket.calls k 1 2 t102 _ A1.out).mono ?_); rintro e w13 ⟨rfl, hb⟩; refine ⟨_, rfl, ?_⟩; have n0_ := Aside0.mk (below_step (by repeat (first | (with_reducible first | exact HB.out | apply below_alloc | apply pw_below_drewN | apply below_drew1) | exact HB.out)) hb); clear HB; have HB := n0_; clear n0_; (try clear hb); (try clear hb2); (try clear hk); (try clear hi)) | (go_at_call 11; (with_reducible refine (route_Bucket.calls k 2 2 t103 _ A3.out).mono ?_); rintro e w14 ⟨rfl, hb⟩; have n0_ := Aside0.mk (below_step (by repeat (first | (with_reducible first | exact HB.out | apply below_alloc | apply pw_below_drewN | apply below_drew1) | exact HB.out)) hb); clear HB; have HB := n0_; clear n0_; (try clear hb); (try clear hb2); (try clear hk); (try clear hi)) | (go_at_call 11; (with_reducible refine (route_Bucket.calls k 1 64 t104 _ A5.out).mono ?_); rintro e w15 ⟨rfl, hb⟩; have n0_ := Aside0.mk (below_step (by repeat (first | (with_reducible first | exact HB.out | apply below_alloc | apply pw_below_drewN | apply below_drew1) | exact HB.out)) hb); clear HB; have HB := n0_; clear n0_; (try clear hb); (try clear hb2); (try clear hk); (try clear hi)) | (go_at_call 11; (with_reducible refine (route_Bucket.calls k 9 1 t105 _ A7.out).mono ?_); rintro e w16 ⟨rfl, hb⟩; have n0_ := Aside0.mk (below_step (by repeat (first | (with_reducible first | exact HB.out | apply below_alloc | apply pw_below_drewN | apply below_drew1) | exact HB.out)) hb); clear HB; have HB := n0_; clear n0_; (try clear hb); (try clear hb2); (try clear hk); (try clear hi)) | (go_at_call 9; (with_reducible refine (route_May.calls k 8 true _ A9.out).mono ?_); rintro e w' ⟨rfl, ⟨nd, rfl⟩⟩) | (go_at_call 9; (with_reducible refine (route_May.calls k 3 true _ A11.out).mono ?_); rintro e w' ⟨rfl, ⟨nd, rfl⟩⟩))
              go_ret
              exact ⟨by first | rfl | (simp [errW_none, errW_some] <;> rfl) | (simp [*, errW_none, errW_some] <;> rfl), by repeat (first | (with_reducible first | exact HB.out | apply below_alloc | apply pw_below_drewN | apply below_drew1) | exact HB.out)⟩
            · replace c12 := Bool.eq_false_iff.mpr c12
              subst c12
              have H1 : ((route_May.f k 128).bind fun t108 => (some (!t108))) = some r := by rw [if_neg (show ¬ (false = true) by decide)] at H; exact H
              clear H
              have H := H1
              clear H1
              replace H := Option.bind_eq_some_iff.mp H
              obtain ⟨t108, A170, H⟩ := H
              replace H : (some (!t108)) = some r := H
              have A17 := Aside0.mk A170
              clear A170
              obtain rfl := Option.some.inj H
              go_enter Try.func8, Try.ntmps8
              go_wp2_with (first | ((with_reducible refine gate_callee (f := 11) rfl ?_); refine goesL_ (some 1) rfl rfl Try.func11 (by kernel_rfl) rfl #[.int .u64 1, .int .i64 2] rfl (by (try simp only [List.map_toArray, List.map_cons, List.map_nil]); first | done | rfl | (simp only [List.length_drop, List.length_take]; rfl)) ?_; (with_reducible refine (route_Bucket.calls k 1 2 t102 _ A1.out).mono ?_); rintro e w18 ⟨rfl, hb⟩; refine ⟨_, rfl, ?_⟩; have n0_ := Aside0.mk (below_step (by repeat (first | (with_reducible first | exact HB.out | apply below_alloc | apply pw_below_drewN | apply below_drew1) | exact HB.out)) hb); clear HB; have HB := n0_; clear n0_; (try clear hb); (try clear hb2); (try clear hk); (try clear hi)) | (go_at_call 11; (with_reducible refine (route_Bucket.calls k 2 2 t103 _ A3.out).mono ?_); rintro e w19 ⟨rfl, hb⟩; have n0_ := Aside0.mk (below_step (by repeat (first | (with_reducible first | exact HB.out | apply below_alloc | apply pw_below_drewN | apply below_drew1) | exact HB.out)) hb); clear HB; have HB := n0_; clear n0_; (try clear hb); (try clear hb2); (try clear hk); (try clear hi)) | (go_at_call 11; (with_reducible refine (route_Bucket.calls k 1 64 t104 _ A5.out).mono ?_); rintro e w20 ⟨rfl, hb⟩; have n0_ := Aside0.mk (below_step (by repeat (first | (with_reducible first | exact HB.out | apply below_alloc | apply pw_below_drewN | apply below_drew1) | exact HB.out)) hb); clear HB; have HB := n0_; clear n0_; (try clear hb); (try clear hb2); (try clear hk); (try clear hi)) | (go_at_call 11; (with_reducible refine (route_Bucket.calls k 9 1 t105 _ A7.out).mono ?_); rintro e w21 ⟨rfl, hb⟩; have n0_ := Aside0.mk (below_step (by repeat (first | (with_reducible first | exact HB.out | apply below_alloc | apply pw_below_drewN | apply below_drew1) | exact HB.out)) hb); clear HB; have HB := n0_; clear n0_; (try clear hb); (try clear hb2); (try clear hk); (try clear hi)) | (go_at_call 9; (with_reducible refine (route_May.calls k 8 true _ A9.out).mono ?_); rintro e w' ⟨rfl, ⟨nd, rfl⟩⟩) | (go_at_call 9; (with_reducible refine (route_May.calls k 3 false _ A11.out).mono ?_); rintro e w' ⟨rfl, ⟨nd, rfl⟩⟩) | (go_at_call 9; (with_reducible refine (route_May.calls k 128 t108 _ A17.out).mono ?_); rintro e w' ⟨rfl, ⟨nd, rfl⟩⟩))
              go_ret
              exact ⟨by first | rfl | (simp [errW_none, errW_some] <;> rfl) | (simp [*, errW_none, errW_some] <;> rfl), by repeat (first | (with_reducible first | exact HB.out | apply below_alloc | apply pw_below_drewN | apply below_drew1) | exact HB.out)⟩
          · replace c10 := Bool.eq_false_iff.mpr c10
            subst c10
            have H1 : (some false) = some r := by rw [if_neg (show ¬ (false = true) by decide)] at H; exact H
            clear H
            have H := H1
            clear H1
            obtain rfl := Option.some.inj H
            go_enter Try.func8, Try.ntmps8
            go_wp2_with (first | ((with_reducible refine gate_callee (f := 11) rfl ?_); refine goesL_ (some 1) rfl rfl Try.func11 (by kernel_rfl) rfl #[.int .u64 1, .int .i64 2] rfl (by (try simp only [List.map_toArray, List.map_cons, List.map_nil]); first | done | rfl | (simp only [List.length_drop, List.length_take]; rfl)) ?_; (with_reducible refine (route_Bucket.calls k 1 2 t102 _ A1.out).mono ?_); rintro e w22 ⟨rfl, hb⟩; refine ⟨_, rfl, ?_⟩; have n0_ := Aside0.mk (below_step (by repeat (first | (with_reducible first | exact HB.out | apply below_alloc | apply pw_below_drewN | apply below_drew1) | exact HB.out)) hb); clear HB; have HB := n0_; clear n0_; (try clear hb); (try clear hb2); (try clear hk); (try clear hi)) | (go_at_call 11; (with_reducible refine (route_Bucket.calls k 2 2 t103 _ A3.out).mono ?_); rintro e w23 ⟨rfl, hb⟩; have n0_ := Aside0.mk (below_step (by repeat (first | (with_reducible first | exact HB.out | apply below_alloc | apply pw_below_drewN | apply below_drew1) | exact HB.out)) hb); clear HB; have HB := n0_; clear n0_; (try clear hb); (try clear hb2); (try clear hk); (try clear hi)) | (go_at_call 11; (with_reducible refine (route_Bucket.calls k 1 64 t104 _ A5.out).mono ?_); rintro e w24 ⟨rfl, hb⟩; have n0_ := Aside0.mk (below_step (by repeat (first | (with_reducible first | exact HB.out | apply below_alloc | apply pw_below_drewN | apply below_drew1) | exact HB.out)) hb); clear HB; have HB := n0_; clear n0_; (try clear hb); (try clear hb2); (try clear hk); (try clear hi)) | (go_at_call 11; (with_reducible refine (route_Bucket.calls k 9 1 t105 _ A7.out).mono ?_); rintro e w25 ⟨rfl, hb⟩; have n0_ := Aside0.mk (below_step (by repeat (first | (with_reducible first | exact HB.out | apply below_alloc | apply pw_below_drewN | apply below_drew1) | exact HB.out)) hb); clear HB; have HB := n0_; clear n0_; (try clear hb); (try clear hb2); (try clear hk); (try clear hi)) | (go_at_call 9; (with_reducible refine (route_May.calls k 8 false _ A9.out).mono ?_); rintro e w' ⟨rfl, ⟨nd, rfl⟩⟩))
            go_ret
            exact ⟨by first | rfl | (simp [errW_none, errW_some] <;> rfl) | (simp [*, errW_none, errW_some] <;> rfl), by repeat (first | (with_reducible first | exact HB.out | apply below_alloc | apply pw_below_drewN | apply below_drew1) | exact HB.out)⟩
        · rw [if_neg c8] at H
          have c8b0 : (t105 == 0) = false := beq_eq_false_iff_ne.mpr c8
          have c8b1 : (t105 != 0) = true := bne_iff_ne.mpr c8
          obtain rfl := Option.some.inj H
          go_enter Try.func8, Try.ntmps8
          go_wp2_with (first | ((with_reducible refine gate_callee (f := 11) rfl ?_); refine goesL_ (some 1) rfl rfl Try.func11 (by kernel_rfl) rfl #[.int .u64 1, .int .i64 2] rfl (by (try simp only [List.map_toArray, List.map_cons, List.map_nil]); first | done | rfl | (simp only [List.length_drop, List.length_take]; rfl)) ?_; (with_reducible refine (route_Bucket.calls k 1 2 t102 _ A1.out).mono ?_); rintro e w26 ⟨rfl, hb⟩; refine ⟨_, rfl, ?_⟩; have n0_ := Aside0.mk (below_step (by repeat (first | (with_reducible first | exact HB.out | apply below_alloc | apply pw_below_drewN | apply below_drew1) | exact HB.out)) hb); clear HB; have HB := n0_; clear n0_; (try clear hb); (try clear hb2); (try clear hk); (try clear hi)) | (go_at_call 11; (with_reducible refine (route_Bucket.calls k 2 2 t103 _ A3.out).mono ?_); rintro e w27 ⟨rfl, hb⟩; have n0_ := Aside0.mk (below_step (by repeat (first | (with_reducible first | exact HB.out | apply below_alloc | apply pw_below_drewN | apply below_drew1) | exact HB.out)) hb); clear HB; have HB := n0_; clear n0_; (try clear hb); (try clear hb2); (try clear hk); (try clear hi)) | (go_at_call 11; (with_reducible refine (route_Bucket.calls k 1 64 t104 _ A5.out).mono ?_); rintro e w28 ⟨rfl, hb⟩; have n0_ := Aside0.mk (below_step (by repeat (first | (with_reducible first | exact HB.out | apply below_alloc | apply pw_below_drewN | apply below_drew1) | exact HB.out)) hb); clear HB; have HB := n0_; clear n0_; (try clear hb); (try clear hb2); (try clear hk); (try clear hi)) | (go_at_call 11; (with_reducible refine (route_Bucket.calls k 9 1 t105 _ A7.out).mono ?_); rintro e w29 ⟨rfl, hb⟩; have n0_ := Aside0.mk (below_step (by repeat (first | (with_reducible first | exact HB.out | apply below_alloc | apply pw_below_drewN | apply below_drew1) | exact HB.out)) hb); clear HB; have HB := n0_; clear n0_; (try clear hb); (try clear hb2); (try clear hk); (try clear hi)))
          go_ret
          exact ⟨by first | rfl | (simp [errW_none, errW_some] <;> rfl) | (simp [*, errW_none, errW_some] <;> rfl), by repeat (first | (with_reducible first | exact HB.out | apply below_alloc | apply pw_below_drewN | apply below_drew1) | exact HB.out)⟩
      · rw [if_neg c6] at H
        have c6b0 : (t104 == 39) = false := beq_eq_false_iff_ne.mpr c6
        have c6b1 : (t104 != 39) = true := bne_iff_ne.mpr c6
        obtain rfl := Option.some.inj H
        go_enter Try.func8, Try.ntmps8
        go_wp2_with (first | ((with_reducible refine gate_callee (f := 11) rfl ?_); refine goesL_ (some 1) rfl rfl Try.func11 (by kernel_rfl) rfl #[.int .u64 1, .int .i64 2] rfl (by (try simp only [List.map_toArray, List.map_cons, List.map_nil]); first | done | rfl | (simp only [List.length_drop, List.length_take]; rfl)) ?_; (with_reducible refine (route_Bucket.calls k 1 2 t102 _ A1.out).mono ?_); rintro e w30 ⟨rfl, hb⟩; refine ⟨_, rfl, ?_⟩; have n0_ := Aside0.mk (below_step (by repeat (first | (with_reducible first | exact HB.out | apply below_alloc | apply pw_below_drewN | apply below_drew1) | exact HB.out)) hb); clear HB; have HB := n0_; clear n0_; (try clear hb); (try clear hb2); (try clear hk); (try clear hi)) | (go_at_call 11; (with_reducible refine (route_Bucket.calls k 2 2 t103 _ A3.out).mono ?_); rintro e w31 ⟨rfl, hb⟩; have n0_ := Aside0.mk (below_step (by repeat (first | (with_reducible first | exact HB.out | apply below_alloc | apply pw_below_drewN | apply below_drew1) | exact HB.out)) hb); clear HB; have HB := n0_; clear n0_; (try clear hb); (try clear hb2); (try clear hk); (try clear hi)) | (go_at_call 11; (with_reducible refine (route_Bucket.calls k 1 64 t104 _ A5.out).mono ?_); rintro e w32 ⟨rfl, hb⟩; have n0_ := Aside0.mk (below_step (by repeat (first | (with_reducible first | exact HB.out | apply below_alloc | apply pw_below_drewN | apply below_drew1) | exact HB.out)) hb); clear HB; have HB := n0_; clear n0_; (try clear hb); (try clear hb2); (try clear hk); (try clear hi)))
        go_ret
        exact ⟨by first | rfl | (simp [errW_none, errW_some] <;> rfl) | (simp [*, errW_none, errW_some] <;> rfl), by repeat (first | (with_reducible first | exact HB.out | apply below_alloc | apply pw_below_drewN | apply below_drew1) | exact HB.out)⟩
    · rw [if_neg c4] at H
      have c4b0 : (t103 == 0) = false := beq_eq_false_iff_ne.mpr c4
      have c4b1 : (t103 != 0) = true := bne_iff_ne.mpr c4
      obtain rfl := Option.some.inj H
      go_enter Try.func8, Try.ntmps8
      go_wp2_with (first | ((with_reducible refine gate_callee (f := 11) rfl ?_); refine goesL_ (some 1) rfl rfl Try.func11 (by kernel_rfl) rfl #[.int .u64 1, .int .i64 2] rfl (by (try simp only [List.map_toArray, List.map_cons, List.map_nil]); first | done | rfl | (simp only [List.length_drop, List.length_take]; rfl)) ?_; (with_reducible refine (route_Bucket.calls k 1 2 t102 _ A1.out).mono ?_); rintro e w33 ⟨rfl, hb⟩; refine ⟨_, rfl, ?_⟩; have n0_ := Aside0.mk (below_step (by repeat (first | (with_reducible first | exact HB.out | apply below_alloc | apply pw_below_drewN | apply below_drew1) | exact HB.out)) hb); clear HB; have HB := n0_; clear n0_; (try clear hb); (try clear hb2); (try clear hk); (try clear hi)) | (go_at_call 11; (with_reducible refine (route_Bucket.calls k 2 2 t103 _ A3.out).mono ?_); rintro e w34 ⟨rfl, hb⟩; have n0_ := Aside0.mk (below_step (by repeat (first | (with_reducible first | exact HB.out | apply below_alloc | apply pw_below_drewN | apply below_drew1) | exact HB.out)) hb); clear HB; have HB := n0_; clear n0_; (try clear hb); (try clear hb2); (try clear hk); (try clear hi)))
      go_ret
      exact ⟨by first | rfl | (simp [errW_none, errW_some] <;> rfl) | (simp [*, errW_none, errW_some] <;> rfl), by repeat (first | (with_reducible first | exact HB.out | apply below_alloc | apply pw_below_drewN | apply below_drew1) | exact HB.out)⟩
  · rw [if_neg c2] at H
    have c2b0 : (t102 == 1) = false := beq_eq_false_iff_ne.mpr c2
    have c2b1 : (t102 != 1) = true := bne_iff_ne.mpr c2
    obtain rfl := Option.some.inj H
    go_enter Try.func8, Try.ntmps8
    go_wp2_with (first | ((with_reducible refine gate_callee (f := 11) rfl ?_); refine goesL_ (some 1) rfl rfl Try.func11 (by kernel_rfl) rfl #[.int .u64 1, .int .i64 2] rfl (by (try simp only [List.map_toArray, List.map_cons, List.map_nil]); first | done | rfl | (simp only [List.length_drop, List.length_take]; rfl)) ?_; (with_reducible refine (route_Bucket.calls k 1 2 t102 _ A1.out).mono ?_); rintro e w35 ⟨rfl, hb⟩; refine ⟨_, rfl, ?_⟩; have n0_ := Aside0.mk (below_step (by repeat (first | (with_reducible first | exact HB.out | apply below_alloc | apply pw_below_drewN | apply below_drew1) | exact HB.out)) hb); clear HB; have HB := n0_; clear n0_; (try clear hb); (try clear hb2); (try clear hk); (try clear hi)))
    go_ret
    exact ⟨by first | rfl | (simp [errW_none, errW_some] <;> rfl) | (simp [*, errW_none, errW_some] <;> rfl), by repeat (first | (with_reducible first | exact HB.out | apply below_alloc | apply pw_below_drewN | apply below_drew1) | exact HB.out)⟩

/-! ### corrielaw03_RouteSpread: function 7 -/
def corrielaw03_RouteSpread.f (k : Nat) (a0 : Int) (a1 : Int) : Option (Bool) := (corrielaw03_awake.f k).bind fun t109 => (if 0 ≤ (Int.tmod a1 7) then ((route_Bucket.f k a0 (shl .i64 1 (Int.tmod a1 7))).bind fun t110 => ((route_Bucket.f k (IntKind.u64.wrap (a0 + 17428512612931826493)) (shl .i64 1 (Int.tmod a1 7))).bind fun t111 => (if t109 = true then (if t111 = t110 then (some true) else (if (shl .i64 1 (Int.tmod a1 7)) = 0 then (none) else (some (t111 == (Int.tmod (wrap64 (t110 + 1)) (shl .i64 1 (Int.tmod a1 7))))))) else (some false)))) else (none))
theorem corrielaw03_RouteSpread.mono : ∀ a0 a1 k, LeO (corrielaw03_RouteSpread.f k a0 a1) (corrielaw03_RouteSpread.f (k + 1) a0 a1) := by
  intro a0 a1 k
  unfold corrielaw03_RouteSpread.f
  repeat' first
      | (with_reducible exact corrielaw03_awake.mono _)
      | (with_reducible exact route_Bucket.mono _ _ _)
      | (with_reducible exact LeO.refl _)
      | (with_reducible exact LeO.none _)
      | (with_reducible refine LeO.ite ?_ ?_)
      | (with_reducible refine LeO.bind ?_ (fun _ => ?_))
      | exact corrielaw03_awake.mono _
      | exact route_Bucket.mono _ _ _
      | exact LeO.none _
      | refine LeO.ite ?_ ?_
      | refine LeO.bind ?_ (fun _ => ?_)
set_option maxHeartbeats 8000000 in
set_option maxRecDepth 100000 in
theorem corrielaw03_RouteSpread.calls (k : Nat) (a0 : Int) (a1 : Int) (r : Bool) (w : World) (h : corrielaw03_RouteSpread.f k a0 a1 = some r) :
    Calls Try.prog 7 #[.int .u64 a0, .int .u8 a1] w fun e w' => e = .returned (.bool r) ∧ Below w.heap.size w w' := by
  have HB := Aside0.mk (Below.refl w.heap.size w)
  have H : ((corrielaw03_awake.f k).bind fun t109 => (if 0 ≤ (Int.tmod a1 7) then ((route_Bucket.f k a0 (shl .i64 1 (Int.tmod a1 7))).bind fun t110 => ((route_Bucket.f k (IntKind.u64.wrap (a0 + 17428512612931826493)) (shl .i64 1 (Int.tmod a1 7))).bind fun t111 => (if t109 = true then (if t111 = t110 then (some true) else (if (shl .i64 1 (Int.tmod a1 7)) = 0 then (none) else (some (t111 == (Int.tmod (wrap64 (t110 + 1)) (shl .i64 1 (Int.tmod a1 7))))))) else (some false)))) else (none))) = some r := h
  clear h
  replace H := Option.bind_eq_some_iff.mp H
  obtain ⟨t109, A30, H⟩ := H
  replace H : (if 0 ≤ (Int.tmod a1 7) then ((route_Bucket.f k a0 (shl .i64 1 (Int.tmod a1 7))).bind fun t110 => ((route_Bucket.f k (IntKind.u64.wrap (a0 + 17428512612931826493)) (shl .i64 1 (Int.tmod a1 7))).bind fun t111 => (if t109 = true then (if t111 = t110 then (some true) else (if (shl .i64 1 (Int.tmod a1 7)) = 0 then (none) else (some (t111 == (Int.tmod (wrap64 (t110 + 1)) (shl .i64 1 (Int.tmod a1 7))))))) else (some false)))) else (none)) = some r := H
  have A3 := Aside0.mk A30
  clear A30
  obtain ⟨ji4, hji4⟩ : ∃ j_ : Int, (Int.tmod a1 7) = j_ := ⟨_, rfl⟩
  replace H : (if 0 ≤ (ji4) then ((route_Bucket.f k a0 (shl .i64 1 (ji4))).bind fun t110 => ((route_Bucket.f k (IntKind.u64.wrap (a0 + 17428512612931826493)) (shl .i64 1 (ji4))).bind fun t111 => (if t109 = true then (if t111 = t110 then (some true) else (if (shl .i64 1 (ji4)) = 0 then (none) else (some (t111 == (Int.tmod (wrap64 (t110 + 1)) (shl .i64 1 (ji4))))))) else (some false)))) else (none)) = some r := by first | (rw [hji4] at H; exact H) | (simp only [hji4] at H ⊢; exact H)
  (try rw [hji4] at A3)
  by_cases c5 : 0 ≤ (ji4)
  · rw [if_pos c5] at H
    have c5b0 := eq_true c5
    have c5b1 : decide (0 ≤ (ji4)) = true := decide_eq_true c5
    clear c5
    obtain ⟨ji6, hji6⟩ : ∃ j_ : Int, (shl .i64 1 (ji4)) = j_ := ⟨_, rfl⟩
    replace H : ((route_Bucket.f k a0 (ji6)).bind fun t110 => ((route_Bucket.f k (IntKind.u64.wrap (a0 + 17428512612931826493)) (ji6)).bind fun t111 => (if t109 = true then (if t111 = t110 then (some true) else (if (ji6) = 0 then (none) else (some (t111 == (Int.tmod (wrap64 (t110 + 1)) (ji6)))))) else (some false)))) = some r := by first | (rw [hji6] at H; exact H) | (simp only [hji6] at H ⊢; exact H)
    (try rw [hji6] at A3)
    have hji6_ : (IntKind.i64.wrap (1 * 2 ^ min (ji4).toNat 64)) = ji6 := hji6
    have hji6z : (ji4) ≤ 64 → (IntKind.i64.wrap (1 * 2 ^ (ji4).toNat)) = ji6 := shl_small hji6
    have hji6u : (IntKind.i64.wrap (2 ^ min (ji4).toNat 64)) = ji6 := by have h_ := hji6_; rw [Int.one_mul] at h_; exact h_
    have hji6v : (ji4) ≤ 64 → (IntKind.i64.wrap (2 ^ (ji4).toNat)) = ji6 := fun hle_ => by have h_ := hji6z hle_; rw [Int.one_mul] at h_; exact h_
    have hji6y : (wrap64 (1 * 2 ^ min (ji4).toNat 64)) = ji6 := (i64_w _).symm.trans hji6_
    have hji6x : (ji4) ≤ 64 → (wrap64 (1 * 2 ^ (ji4).toNat)) = ji6 := fun h_ => (i64_w _).symm.trans (hji6z h_)
    replace H := Option.bind_eq_some_iff.mp H
    obtain ⟨t110, A70, H⟩ := H
    replace H : ((route_Bucket.f k (IntKind.u64.wrap (a0 + 17428512612931826493)) (ji6)).bind fun t111 => (if t109 = true then (if t111 = t110 then (some true) else (if (ji6) = 0 then (none) else (some (t111 == (Int.tmod (wrap64 (t110 + 1)) (ji6)))))) else (some false))) = some r := H
    have A7 := Aside0.mk A70
    clear A70
    replace H := Option.bind_eq_some_iff.mp H
    obtain ⟨t111, A80, H⟩ := H
    replace H : (if t109 = true then (if t111 = t110 then (some true) else (if (ji6) = 0 then (none) else (some (t111 == (Int.tmod (wrap64 (t110 + 1)) (ji6)))))) else (some false)) = some r := H
    have A8 := Aside0.mk A80
    clear A80
    by_cases c9 : t109 = true
    · subst c9
      have H1 : (if t111 = t110 then (some true) else (if (ji6) = 0 then (none) else (some (t111 == (Int.tmod (wrap64 (t110 + 1)) (ji6)))))) = some r := by rw [if_pos rfl] at H; exact H
      clear H
      have H := H1
      clear H1
      by_cases c10 : t111 = t110
      · rw [if_pos c10] at H
        have c10b0 : (t111 == t110) = true := beq_iff_eq.mpr c10
        have c10b1 : (t111 != t110) = false := bne_eq_false_iff_eq.mpr c10
        clear c10
        obtain rfl := Option.some.inj H
        go_enter Try.func7, Try.ntmps7
        go_wp2_with (first | ((with_reducible refine gate_callee (f := 8) rfl ?_); refine goesL_ (some 9) rfl rfl Try.func8 (by kernel_rfl) rfl #[] rfl (by (try simp only [List.map_toArray, List.map_cons, List.map_nil]); first | done | rfl | (simp only [List.length_drop, List.length_take]; rfl)) ?_; (with_reducible refine (corrielaw03_awake.calls k  true _ A3.out).mono ?_); rintro e w11 ⟨rfl, hb⟩; refine ⟨_, rfl, ?_⟩; have n0_ := Aside0.mk (below_step (by repeat (first | (with_reducible first | exact HB.out | apply below_alloc | apply pw_below_drewN | apply below_drew1) | exact HB.out)) hb); clear HB; have HB := n0_; clear n0_; (try clear hb); (try clear hb2); (try clear hk); (try clear hi)) | ((with_reducible refine gate_callee (f := 11) rfl ?_); refine goesL_ (some 15) rfl rfl Try.func11 (by kernel_rfl) rfl #[.int .u64 a0, .int .i64 ji6] rfl (by (try simp only [List.map_toArray, List.map_cons, List.map_nil]); first | done | (simp only [hji6]; rfl) | rfl | (simp only [List.length_drop, List.length_take]; rfl)) ?_; (with_reducible refine (route_Bucket.calls k a0 ji6 t110 _ A7.out).mono ?_); rintro e w12 ⟨rfl, hb⟩; refine ⟨_, rfl, ?_⟩; have n0_ := Aside0.mk (below_step (by repeat (first | (with_reducible first | exact HB.out | apply below_alloc | apply pw_below_drewN | apply below_drew1) | exact HB.out)) hb); clear HB; have HB := n0_; clear n0_; (try clear hb); (try clear hb2); (try clear hk); (try clear hi)) | ((with_reducible refine gate_callee (f := 11) rfl ?_); refine goesL_ (some 19) rfl rfl Try.func11 (by kernel_rfl) rfl #[.int .u64 (IntKind.u64.wrap (a0 + 17428512612931826493)), .int .i64 ji6] rfl (by (try simp only [List.map_toArray, List.map_cons, List.map_nil]); first | done | (simp only [hji6]; rfl) | rfl | (simp only [List.length_drop, List.length_take]; rfl)) ?_; (with_reducible refine (route_Bucket.calls k (IntKind.u64.wrap (a0 + 17428512612931826493)) ji6 t111 _ A8.out).mono ?_); rintro e w13 ⟨rfl, hb⟩; refine ⟨_, rfl, ?_⟩; have n0_ := Aside0.mk (below_step (by repeat (first | (with_reducible first | exact HB.out | apply below_alloc | apply pw_below_drewN | apply below_drew1) | exact HB.out)) hb); clear HB; have HB := n0_; clear n0_; (try clear hb); (try clear hb2); (try clear hk); (try clear hi)))
        go_ret
        exact ⟨by first | rfl | (simp [errW_none, errW_some] <;> rfl) | (simp only [← hji4, ← hji6]; first | rfl | (simp [errW_none, errW_some] <;> rfl)) | (simp [*, errW_none, errW_some] <;> rfl), by repeat (first | (with_reducible first | exact HB.out | apply below_alloc | apply pw_below_drewN | apply below_drew1) | exact HB.out)⟩
      · rw [if_neg c10] at H
        have c10b0 : (t111 == t110) = false := beq_eq_false_iff_ne.mpr c10
        have c10b1 : (t111 != t110) = true := bne_iff_ne.mpr c10
        by_cases c14 : (ji6) = 0
        · rw [if_pos c14] at H
          exact absurd H (by simp)
        · rw [if_neg c14] at H
          have c14b0 : ((ji6) == 0) = false := beq_eq_false_iff_ne.mpr c14
          have c14b1 : ((ji6) != 0) = true := bne_iff_ne.mpr c14
          obtain rfl := Option.some.inj H
          go_enter Try.func7, Try.ntmps7
          go_wp2_with (first | ((with_reducible refine gate_callee (f := 8) rfl ?_); refine goesL_ (some 9) rfl rfl Try.func8 (by kernel_rfl) rfl #[] rfl (by (try simp only [List.map_toArray, List.map_cons, List.map_nil]); first | done | rfl | (simp only [List.length_drop, List.length_take]; rfl)) ?_; (with_reducible refine (corrielaw03_awake.calls k  true _ A3.out).mono ?_); rintro e w15 ⟨rfl, hb⟩; refine ⟨_, rfl, ?_⟩; have n0_ := Aside0.mk (below_step (by repeat (first | (with_reducible first | exact HB.out | apply below_alloc | apply pw_below_drewN | apply below_drew1) | exact HB.out)) hb); clear HB; have HB := n0_; clear n0_; (try clear hb); (try clear hb2); (try clear hk); (try clear hi)) | ((with_reducible refine gate_callee (f := 11) rfl ?_); refine goesL_ (some 15) rfl rfl Try.func11 (by kernel_rfl) rfl #[.int .u64 a0, .int .i64 ji6] rfl (by (try simp only [List.map_toArray, List.map_cons, List.map_nil]); first | done | (simp only [hji6]; rfl) | rfl | (simp only [List.length_drop, List.length_take]; rfl)) ?_; (with_reducible refine (route_Bucket.calls k a0 ji6 t110 _ A7.out).mono ?_); rintro e w16 ⟨rfl, hb⟩; refine ⟨_, rfl, ?_⟩; have n0_ := Aside0.mk (below_step (by repeat (first | (with_reducible first | exact HB.out | apply below_alloc | apply pw_below_drewN | apply below_drew1) | exact HB.out)) hb); clear HB; have HB := n0_; clear n0_; (try clear hb); (try clear hb2); (try clear hk); (try clear hi)) | ((with_reducible refine gate_callee (f := 11) rfl ?_); refine goesL_ (some 19) rfl rfl Try.func11 (by kernel_rfl) rfl #[.int .u64 (IntKind.u64.wrap (a0 + 17428512612931826493)), .int .i64 ji6] rfl (by (try simp only [List.map_toArray, List.map_cons, List.map_nil]); first | done | (simp only [hji6]; rfl) | rfl | (simp only [List.length_drop, List.length_take]; rfl)) ?_; (with_reducible refine (route_Bucket.calls k (IntKind.u64.wrap (a0 + 17428512612931826493)) ji6 t111 _ A8.out).mono ?_); rintro e w17 ⟨rfl, hb⟩; refine ⟨_, rfl, ?_⟩; have n0_ := Aside0.mk (below_step (by repeat (first | (with_reducible first | exact HB.out | apply below_alloc | apply pw_below_drewN | apply below_drew1) | exact HB.out)) hb); clear HB; have HB := n0_; clear n0_; (try clear hb); (try clear hb2); (try clear hk); (try clear hi)))
          go_ret
          exact ⟨by first | rfl | (simp [errW_none, errW_some] <;> rfl) | (simp only [← hji4, ← hji6]; first | rfl | (simp [errW_none, errW_some] <;> rfl)) | (simp [*, errW_none, errW_some] <;> rfl), by repeat (first | (with_reducible first | exact HB.out | apply below_alloc | apply pw_below_drewN | apply below_drew1) | exact HB.out)⟩
    · replace c9 := Bool.eq_false_iff.mpr c9
      subst c9
      have H1 : (some false) = some r := by rw [if_neg (show ¬ (false = true) by decide)] at H; exact H
      clear H
      have H := H1
      clear H1
      obtain rfl := Option.some.inj H
      go_enter Try.func7, Try.ntmps7
      go_wp2_with (first | ((with_reducible refine gate_callee (f := 8) rfl ?_); refine goesL_ (some 9) rfl rfl Try.func8 (by kernel_rfl) rfl #[] rfl (by (try simp only [List.map_toArray, List.map_cons, List.map_nil]); first | done | rfl | (simp only [List.length_drop, List.length_take]; rfl)) ?_; (with_reducible refine (corrielaw03_awake.calls k  false _ A3.out).mono ?_); rintro e w18 ⟨rfl, hb⟩; refine ⟨_, rfl, ?_⟩; have n0_ := Aside0.mk (below_step (by repeat (first | (with_reducible first | exact HB.out | apply below_alloc | apply pw_below_drewN | apply below_drew1) | exact HB.out)) hb); clear HB; have HB := n0_; clear n0_; (try clear hb); (try clear hb2); (try clear hk); (try clear hi)) | ((with_reducible refine gate_callee (f := 11) rfl ?_); refine goesL_ (some 15) rfl rfl Try.func11 (by kernel_rfl) rfl #[.int .u64 a0, .int .i64 ji6] rfl (by (try simp only [List.map_toArray, List.map_cons, List.map_nil]); first | done | (simp only [hji6]; rfl) | rfl | (simp only [List.length_drop, List.length_take]; rfl)) ?_; (with_reducible refine (route_Bucket.calls k a0 ji6 t110 _ A7.out).mono ?_); rintro e w19 ⟨rfl, hb⟩; refine ⟨_, rfl, ?_⟩; have n0_ := Aside0.mk (below_step (by repeat (first | (with_reducible first | exact HB.out | apply below_alloc | apply pw_below_drewN | apply below_drew1) | exact HB.out)) hb); clear HB; have HB := n0_; clear n0_; (try clear hb); (try clear hb2); (try clear hk); (try clear hi)) | ((with_reducible refine gate_callee (f := 11) rfl ?_); refine goesL_ (some 19) rfl rfl Try.func11 (by kernel_rfl) rfl #[.int .u64 (IntKind.u64.wrap (a0 + 17428512612931826493)), .int .i64 ji6] rfl (by (try simp only [List.map_toArray, List.map_cons, List.map_nil]); first | done | (simp only [hji6]; rfl) | rfl | (simp only [List.length_drop, List.length_take]; rfl)) ?_; (with_reducible refine (route_Bucket.calls k (IntKind.u64.wrap (a0 + 17428512612931826493)) ji6 t111 _ A8.out).mono ?_); rintro e w20 ⟨rfl, hb⟩; refine ⟨_, rfl, ?_⟩; have n0_ := Aside0.mk (below_step (by repeat (first | (with_reducible first | exact HB.out | apply below_alloc | apply pw_below_drewN | apply below_drew1) | exact HB.out)) hb); clear HB; have HB := n0_; clear n0_; (try clear hb); (try clear hb2); (try clear hk); (try clear hi)))
      go_ret
      exact ⟨by first | rfl | (simp [errW_none, errW_some] <;> rfl) | (simp only [← hji4, ← hji6]; first | rfl | (simp [errW_none, errW_some] <;> rfl)) | (simp [*, errW_none, errW_some] <;> rfl), by repeat (first | (with_reducible first | exact HB.out | apply below_alloc | apply pw_below_drewN | apply below_drew1) | exact HB.out)⟩
  · rw [if_neg c5] at H
    exact absurd H (by simp)

/-- THE ONE PURE STATEMENT of corrielaw03_RouteSpread: yours. -/
def corrielaw03_RouteSpread.Pure : Prop := ∀ (a0 : Int) (a1 : Int), (Lit.int .u64 a0).wf = true → (Lit.int .u8 a1).wf = true → ∃ k, corrielaw03_RouteSpread.f k a0 a1 = some true
theorem corrielaw03_RouteSpread.walk (P : corrielaw03_RouteSpread.Pure) (a0 : Int) (a1 : Int) (w : World) (w0 : (Lit.int .u64 a0).wf = true) (w1 : (Lit.int .u8 a1).wf = true) :
    Calls Try.prog 7 #[.int .u64 a0, .int .u8 a1] w fun e w' => e = .returned (.bool true) ∧ Below w.heap.size w w' := by
  obtain ⟨k, h⟩ := P a0 a1 w0 w1
  refine (corrielaw03_RouteSpread.calls k a0 a1 true w h).mono ?_
  rintro e w' ⟨rfl, hd⟩
  exact ⟨rfl, hd⟩

end Go.Proofs.Ytahifbdggbeajac.PRouteSpread
