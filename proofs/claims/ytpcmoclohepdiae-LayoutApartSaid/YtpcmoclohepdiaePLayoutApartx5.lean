-- Written by a program of this session: a variant of the print that takes proofs by hand (wip/tools/mkprint.py)
import Derived.Test.YtpcmoclohepdiaePLayoutApartx0
import Derived.Test.YtpcmoclohepdiaePLayoutApartx3
import Derived.Test.YtpcmoclohepdiaePLayoutApartx4
namespace Go.Proofs.Ytpcmoclohepdiae.PLayoutApart
open Go.RowKit Go.Proofs.YtpcmoclohepdiaeW.PrintWords Go.Proofs.YtpcmoclohepdiaeW.PrintLast Go.Proofs.YtpcmoclohepdiaeW.PrintMore
attribute [local go_sem] max2_int min2_int max_two min_two max_three min_three max_four min_four   -- for this text's walks alone
set_option linter.unusedVariables false
set_option linter.unusedSimpArgs false

/-! ### corrielaw05_LayoutApart: function 6 (by hand) -/
def corrielaw05_LayoutApart.f (k : Nat) (t : Int) (b : Int) (i : Int) (f : Int) (c : Int) (p : Int) (q : Int) (x : Int) (y : Int) : Option Bool := (corrieref04_May.f k t b i f c).bind fun m => if m = 0 then (if t ≠ 0 then (if c ≠ 0 then (if Int.tmod (wrap64 p) t = Int.tmod (wrap64 q) t then (if Int.tmod (wrap64 x) c = Int.tmod (wrap64 y) c then ((layout_Node.f k t b i f c (Int.tmod (wrap64 p) t) (Int.tmod (wrap64 x) c)).bind fun v0 => (layout_Node.f k t b i f c (Int.tmod (wrap64 q) t) (Int.tmod (wrap64 y) c)).bind fun u0 => if (v0 == u0) = true then ((layout_Op.f k t b i f c (Int.tmod (wrap64 p) t) (Int.tmod (wrap64 x) c)).bind fun v1 => (layout_Op.f k t b i f c (Int.tmod (wrap64 q) t) (Int.tmod (wrap64 y) c)).bind fun u1 => if (v1 == u1) = true then ((layout_Node.f k t b i f c (Int.tmod (wrap64 p) t) (Int.tmod (wrap64 x) c)).bind fun v2 => (layout_Head.f k t b i f c (wrap64 (b - 1))).bind fun u2 => if u2 < v2 then ((layout_Op.f k t b i f c (Int.tmod (wrap64 p) t) (Int.tmod (wrap64 x) c)).bind fun v3 => (layout_Thread.f k t b i f c v3).bind fun u3 => if u3 = Int.tmod (wrap64 p) t then (some true) else none) else none) else none) else none) else ((layout_Node.f k t b i f c (Int.tmod (wrap64 p) t) (Int.tmod (wrap64 x) c)).bind fun v0 => (layout_Node.f k t b i f c (Int.tmod (wrap64 q) t) (Int.tmod (wrap64 y) c)).bind fun u0 => if (v0 == u0) = false then ((layout_Op.f k t b i f c (Int.tmod (wrap64 p) t) (Int.tmod (wrap64 x) c)).bind fun v1 => (layout_Op.f k t b i f c (Int.tmod (wrap64 q) t) (Int.tmod (wrap64 y) c)).bind fun u1 => if (v1 == u1) = false then ((layout_Node.f k t b i f c (Int.tmod (wrap64 p) t) (Int.tmod (wrap64 x) c)).bind fun v2 => (layout_Head.f k t b i f c (wrap64 (b - 1))).bind fun u2 => if u2 < v2 then ((layout_Op.f k t b i f c (Int.tmod (wrap64 p) t) (Int.tmod (wrap64 x) c)).bind fun v3 => (layout_Thread.f k t b i f c v3).bind fun u3 => if u3 = Int.tmod (wrap64 p) t then (some true) else none) else none) else none) else none)) else ((layout_Node.f k t b i f c (Int.tmod (wrap64 p) t) (Int.tmod (wrap64 x) c)).bind fun v0 => (layout_Node.f k t b i f c (Int.tmod (wrap64 q) t) (Int.tmod (wrap64 y) c)).bind fun u0 => if (v0 == u0) = false then ((layout_Op.f k t b i f c (Int.tmod (wrap64 p) t) (Int.tmod (wrap64 x) c)).bind fun v1 => (layout_Op.f k t b i f c (Int.tmod (wrap64 q) t) (Int.tmod (wrap64 y) c)).bind fun u1 => if (v1 == u1) = false then ((layout_Node.f k t b i f c (Int.tmod (wrap64 p) t) (Int.tmod (wrap64 x) c)).bind fun v2 => (layout_Head.f k t b i f c (wrap64 (b - 1))).bind fun u2 => if u2 < v2 then ((layout_Op.f k t b i f c (Int.tmod (wrap64 p) t) (Int.tmod (wrap64 x) c)).bind fun v3 => (layout_Thread.f k t b i f c v3).bind fun u3 => if u3 = Int.tmod (wrap64 p) t then (some true) else none) else none) else none) else none)) else none) else none) else (some true)
def corrielaw05_LayoutApart.T9 : Bool × List (List Nat × List Nat) := (true, [([], []), ([0], [0]), ([1], [1]), ([1], [1]), ([1], [1]), ([2, 3, 4, 1, 1], [1, 2, 3, 4]), ([1], [1]), ([1], [1]), ([1], [1]), ([6, 7, 8, 5, 1], [1, 6, 7, 8]), ([5, 9, 1], [1, 5, 9]), ([1], [1]), ([10, 11, 1], [1, 10, 11]), ([1, 12], [1, 12]), ([13, 9], [13]), ([14], [14]), ([14], [14]), ([14], [14]), ([15, 16, 17, 14, 14], [14, 15, 16, 17]), ([14], [14]), ([14], [14]), ([14], [14]), ([19, 20, 21, 18, 14], [14, 19, 20, 21]), ([18, 22, 14], [14, 18, 22]), ([14], [14]), ([23, 24, 14], [14, 23, 24]), ([14, 25], [14, 25]), ([26, 22], [26]), ([27], [27]), ([27], [27]), ([27], [27]), ([28, 29, 30, 27, 27], [27, 28, 29, 30]), ([27], [27]), ([27], [27]), ([33, 27], [27, 33]), ([34, 27], [27, 34]), ([32, 35, 31, 27], [27, 32, 35]), ([31, 36, 27], [27, 31, 36]), ([27, 37], [27, 37]), ([38, 36], [38]), ([39], [39]), ([39], [39]), ([39], [39]), ([39], [39]), ([41, 42, 43, 39, 39], [39, 41, 42, 43]), ([40, 44, 44, 39], [39, 40, 44]), ([39], [39]), ([45, 46, 39], [39, 45, 46]), ([39, 47], [39, 47]), ([48, 45, 0, 1, 2, 3, 4, 5, 6, 7, 8, 9, 10, 11, 12, 13, 14, 15, 16, 17, 18, 19, 20, 21, 22, 23, 24, 25, 26, 27, 28, 29, 30, 31, 32, 33, 34, 35, 36, 37, 38, 39, 40, 41, 42, 43, 44, 45, 46, 47, 48], [48])])
def corrielaw05_LayoutApart.B9 : List Nat := [0, 1, 3, 3, 3, 31, 3, 3, 3, 511, 1023, 3, 4095, 8191, 16383, 32767, 32767, 32767, 262143, 32767, 32767, 32767, 4194303, 8388607, 32767, 33554431, 67108863, 134217727, 268435455, 268435455, 268435455, 2147483647, 268435455, 268435455, 8858370047, 26038239231, 68719476735, 137438953471, 274877906943, 549755813887, 1099511627775, 1099511627775, 1099511627775, 1099511627775, 16492674416639, 35184372088831, 1099511627775, 140737488355327, 281474976710655, 562949953421311]
theorem corrielaw05_LayoutApart.tab9 : rtab .any (opsOf Try.f6 9) = corrielaw05_LayoutApart.T9 := by kernel_rfl
theorem corrielaw05_LayoutApart.bits9 : waitsOk corrielaw05_LayoutApart.T9.2 corrielaw05_LayoutApart.B9 = true := by kernel_rfl
set_option maxHeartbeats 8000000 in
set_option maxRecDepth 100000 in
theorem corrielaw05_LayoutApart.calls (k : Nat) (a0_0 : Int) (a0_1 : Int) (a0_2 : Int) (a0_3 : Int) (a0_4 : Int) (a1_0 : Int) (a1_1 : Int) (a2_0 : Int) (a2_1 : Int) (r : Bool) (w : World) (h : corrielaw05_LayoutApart.f k a0_0 a0_1 a0_2 a0_3 a0_4 a1_0 a1_1 a2_0 a2_1 = some r) :
    Calls Try.prog 6 #[.agg #[.int .i64 a0_0, .int .i64 a0_1, .int .i64 a0_2, .int .i64 a0_3, .int .i64 a0_4], .agg #[.int .u8 a1_0, .int .u8 a1_1], .agg #[.int .u16 a2_0, .int .u16 a2_1]] w fun e w' => e = .returned (.bool r) ∧ Below w.heap.size w w' := by
  revert h
  generalize a0_0 = t, a0_1 = b, a0_2 = i, a0_3 = f, a0_4 = c, a1_0 = p, a1_1 = q, a2_0 = x, a2_1 = y
  intro h
  obtain ⟨m, hm, hn_⟩ := Option.bind_eq_some_iff.mp h
  clear h
  have h := hn_
  clear hn_
  have Hm := Aside0.mk hm
  clear hm
  by_cases e1 : m = 0
  · rw [if_pos e1] at h
    subst e1
    by_cases e2 : t ≠ 0
    rotate_left
    · rw [if_neg e2] at h
      cases h
    rw [if_pos e2] at h
    have tz := e2
    clear e2
    by_cases e3 : c ≠ 0
    rotate_left
    · rw [if_neg e3] at h
      cases h
    rw [if_pos e3] at h
    have cz := e3
    clear e3
    by_cases e4 : Int.tmod (wrap64 p) t = Int.tmod (wrap64 q) t
    · rw [if_pos e4] at h
      have sb := beq_iff_eq.mpr e4
      clear e4
      by_cases e5 : Int.tmod (wrap64 x) c = Int.tmod (wrap64 y) c
      · rw [if_pos e5] at h
        have nb := beq_iff_eq.mpr e5
        clear e5
        obtain ⟨v0, hv0, hn_⟩ := Option.bind_eq_some_iff.mp h
        clear h
        have h := hn_
        clear hn_
        have Hv0 := Aside0.mk hv0
        clear hv0
        obtain ⟨u0, hu0, hn_⟩ := Option.bind_eq_some_iff.mp h
        clear h
        have h := hn_
        clear hn_
        have Hu0 := Aside0.mk hu0
        clear hu0
        by_cases e6 : (v0 == u0) = true
        rotate_left
        · rw [if_neg e6] at h
          cases h
        rw [if_pos e6] at h
        have bae6 := e6
        clear e6
        obtain ⟨v1, hv1, hn_⟩ := Option.bind_eq_some_iff.mp h
        clear h
        have h := hn_
        clear hn_
        have Hv1 := Aside0.mk hv1
        clear hv1
        obtain ⟨u1, hu1, hn_⟩ := Option.bind_eq_some_iff.mp h
        clear h
        have h := hn_
        clear hn_
        have Hu1 := Aside0.mk hu1
        clear hu1
        by_cases e7 : (v1 == u1) = true
        rotate_left
        · rw [if_neg e7] at h
          cases h
        rw [if_pos e7] at h
        have bbe7 := e7
        clear e7
        obtain ⟨v2, hv2, hn_⟩ := Option.bind_eq_some_iff.mp h
        clear h
        have h := hn_
        clear hn_
        have Hv2 := Aside0.mk hv2
        clear hv2
        obtain ⟨u2, hu2, hn_⟩ := Option.bind_eq_some_iff.mp h
        clear h
        have h := hn_
        clear hn_
        have Hu2 := Aside0.mk hu2
        clear hu2
        by_cases e8 : u2 < v2
        rotate_left
        · rw [if_neg e8] at h
          cases h
        rw [if_pos e8] at h
        obtain ⟨v3, hv3, hn_⟩ := Option.bind_eq_some_iff.mp h
        clear h
        have h := hn_
        clear hn_
        have Hv3 := Aside0.mk hv3
        clear hv3
        obtain ⟨u3, hu3, hn_⟩ := Option.bind_eq_some_iff.mp h
        clear h
        have h := hn_
        clear hn_
        have Hu3 := Aside0.mk hu3
        clear hu3
        by_cases e9 : u3 = Int.tmod (wrap64 p) t
        rotate_left
        · rw [if_neg e9] at h
          cases h
        rw [if_pos e9] at h
        subst e9
        obtain rfl := Option.some.inj h
        clear h
        have T1 : True := trivial
        have HB0 := Aside0.mk (show Below w.heap.size w (((w.alloc (.cells #[.int .i64 t, .int .i64 b, .int .i64 i, .int .i64 f, .int .i64 c] 23)).alloc (.cells #[.int .u8 p, .int .u8 q] 32)).alloc (.cells #[.int .u16 x, .int .u16 y] 33)) from by repeat (first | exact Below.refl _ _ | apply below_alloc))
        have BK0_0 := Aside0.mk (show (((w.alloc (.cells #[.int .i64 t, .int .i64 b, .int .i64 i, .int .i64 f, .int .i64 c] 23)).alloc (.cells #[.int .u8 p, .int .u8 q] 32)).alloc (.cells #[.int .u16 x, .int .u16 y] 33)).heap[w.heap.size]? = some (.cells #[.int .i64 t, .int .i64 b, .int .i64 i, .int .i64 f, .int .i64 c] 23 (0, 0)) from (blk_alloc (blk_alloc (by simpa using blk_new w (.cells #[.int .i64 t, .int .i64 b, .int .i64 i, .int .i64 f, .int .i64 c] 23)) _) _))
        have BK1_0 := Aside0.mk (show (((w.alloc (.cells #[.int .i64 t, .int .i64 b, .int .i64 i, .int .i64 f, .int .i64 c] 23)).alloc (.cells #[.int .u8 p, .int .u8 q] 32)).alloc (.cells #[.int .u16 x, .int .u16 y] 33)).heap[(w.heap.size + 1)]? = some (.cells #[.int .u8 p, .int .u8 q] 32 (0, 0)) from (blk_alloc (by simpa using blk_new (w.alloc (.cells #[.int .i64 t, .int .i64 b, .int .i64 i, .int .i64 f, .int .i64 c] 23)) (.cells #[.int .u8 p, .int .u8 q] 32)) _))
        have BK2_0 := Aside0.mk (show (((w.alloc (.cells #[.int .i64 t, .int .i64 b, .int .i64 i, .int .i64 f, .int .i64 c] 23)).alloc (.cells #[.int .u8 p, .int .u8 q] 32)).alloc (.cells #[.int .u16 x, .int .u16 y] 33)).heap[(w.heap.size + 2)]? = some (.cells #[.int .u16 x, .int .u16 y] 33 (0, 0)) from (by simpa using blk_new ((w.alloc (.cells #[.int .i64 t, .int .i64 b, .int .i64 i, .int .i64 f, .int .i64 c] 23)).alloc (.cells #[.int .u8 p, .int .u8 q] 32)) (.cells #[.int .u16 x, .int .u16 y] 33)))
        go_enter Try.func6, Try.ntmps6
        go_wp2_with (first | (go_at_call 8; have _t := T1; clear T1 _t; (with_reducible refine (corrielaw05_awake.calls true _ rfl).mono ?_); rintro e w1 ⟨rfl, hb1⟩; have HB1 := Aside0.mk (below_step HB0.out hb1); have BK0_1 := Aside0.mk (blk_below BK0_0.out hb1); clear BK0_0; have BK1_1 := Aside0.mk (blk_below BK1_0.out hb1); clear BK1_0; have BK2_1 := Aside0.mk (blk_below BK2_0.out hb1); clear BK2_0; clear HB0; have c1_0_0 : w1.cell? ⟨w.heap.size, 0, none⟩ = some (.int .i64 t) := (blk_cell BK0_1.out 0).trans rfl; have c1_0_1 : w1.cell? ⟨w.heap.size, 1, none⟩ = some (.int .i64 b) := (blk_cell BK0_1.out 1).trans rfl; have c1_0_2 : w1.cell? ⟨w.heap.size, 2, none⟩ = some (.int .i64 i) := (blk_cell BK0_1.out 2).trans rfl; have c1_0_3 : w1.cell? ⟨w.heap.size, 3, none⟩ = some (.int .i64 f) := (blk_cell BK0_1.out 3).trans rfl; have c1_0_4 : w1.cell? ⟨w.heap.size, 4, none⟩ = some (.int .i64 c) := (blk_cell BK0_1.out 4).trans rfl; have c1_1_0 : w1.cell? ⟨(w.heap.size + 1), 0, none⟩ = some (.int .u8 p) := (blk_cell BK1_1.out 0).trans rfl; have c1_1_1 : w1.cell? ⟨(w.heap.size + 1), 1, none⟩ = some (.int .u8 q) := (blk_cell BK1_1.out 1).trans rfl; have c1_2_0 : w1.cell? ⟨(w.heap.size + 2), 0, none⟩ = some (.int .u16 x) := (blk_cell BK2_1.out 0).trans rfl; have c1_2_1 : w1.cell? ⟨(w.heap.size + 2), 1, none⟩ = some (.int .u16 y) := (blk_cell BK2_1.out 1).trans rfl; have z1_0 : w.heap.size < w1.heap.size := blk_lt BK0_1.out; have z1_1 : (w.heap.size + 1) < w1.heap.size := blk_lt BK1_1.out; have z1_2 : (w.heap.size + 2) < w1.heap.size := blk_lt BK2_1.out; clear hb1; have T2 : True := trivial) | (go_at_call 25; have _t := T2; clear T2 _t; (with_reducible refine (corrieref04_May.calls k t b i f c 0 _ Hm.out).mono ?_); rintro e w2 ⟨rfl, hb2⟩; have HB2 := Aside0.mk (below_step HB1.out hb2); have BK0_2 := Aside0.mk (blk_below BK0_1.out hb2); clear BK0_1; have BK1_2 := Aside0.mk (blk_below BK1_1.out hb2); clear BK1_1; have BK2_2 := Aside0.mk (blk_below BK2_1.out hb2); clear BK2_1; clear HB1; (try clear c1_0_0 c1_0_1 c1_0_2 c1_0_3 c1_0_4 c1_1_0 c1_1_1 c1_2_0 c1_2_1 z1_0 z1_1 z1_2); have c2_0_0 : w2.cell? ⟨w.heap.size, 0, none⟩ = some (.int .i64 t) := (blk_cell BK0_2.out 0).trans rfl; have c2_0_1 : w2.cell? ⟨w.heap.size, 1, none⟩ = some (.int .i64 b) := (blk_cell BK0_2.out 1).trans rfl; have c2_0_2 : w2.cell? ⟨w.heap.size, 2, none⟩ = some (.int .i64 i) := (blk_cell BK0_2.out 2).trans rfl; have c2_0_3 : w2.cell? ⟨w.heap.size, 3, none⟩ = some (.int .i64 f) := (blk_cell BK0_2.out 3).trans rfl; have c2_0_4 : w2.cell? ⟨w.heap.size, 4, none⟩ = some (.int .i64 c) := (blk_cell BK0_2.out 4).trans rfl; have c2_1_0 : w2.cell? ⟨(w.heap.size + 1), 0, none⟩ = some (.int .u8 p) := (blk_cell BK1_2.out 0).trans rfl; have c2_1_1 : w2.cell? ⟨(w.heap.size + 1), 1, none⟩ = some (.int .u8 q) := (blk_cell BK1_2.out 1).trans rfl; have c2_2_0 : w2.cell? ⟨(w.heap.size + 2), 0, none⟩ = some (.int .u16 x) := (blk_cell BK2_2.out 0).trans rfl; have c2_2_1 : w2.cell? ⟨(w.heap.size + 2), 1, none⟩ = some (.int .u16 y) := (blk_cell BK2_2.out 1).trans rfl; have z2_0 : w.heap.size < w2.heap.size := blk_lt BK0_2.out; have z2_1 : (w.heap.size + 1) < w2.heap.size := blk_lt BK1_2.out; have z2_2 : (w.heap.size + 2) < w2.heap.size := blk_lt BK2_2.out; clear hb2; have T3 : True := trivial))
        try clear c2_0_0 c2_0_1 c2_0_2 c2_0_3 c2_0_4 c2_1_0 c2_1_1 c2_2_0 c2_2_1 z2_0 z2_1 z2_2
        have BK0 := Aside0.mk (blk_drew BK0_2.out)
        clear BK0_2
        have BK1 := Aside0.mk (blk_drew BK1_2.out)
        clear BK1_2
        have BK2 := Aside0.mk (blk_drew BK2_2.out)
        clear BK2_2
        have HB := Aside0.mk (below_drew1 HB2.out)
        clear HB2
        refine start_ (n := 50) (S := fun w' => w'.cell? ⟨w.heap.size, 0, none⟩ = some (.int .i64 t) ∧ w'.cell? ⟨w.heap.size, 1, none⟩ = some (.int .i64 b) ∧ w'.cell? ⟨w.heap.size, 2, none⟩ = some (.int .i64 i) ∧ w'.cell? ⟨w.heap.size, 3, none⟩ = some (.int .i64 f) ∧ w'.cell? ⟨w.heap.size, 4, none⟩ = some (.int .i64 c) ∧ w'.cell? ⟨(w.heap.size + 1), 0, none⟩ = some (.int .u8 p) ∧ w'.cell? ⟨(w.heap.size + 1), 1, none⟩ = some (.int .u8 q) ∧ w'.cell? ⟨(w.heap.size + 2), 0, none⟩ = some (.int .u16 x) ∧ w'.cell? ⟨(w.heap.size + 2), 1, none⟩ = some (.int .u16 y)) (ds := []) #[false, false, false, false, false, false, false, false, false, false, false, false, false, false, false, false, false, false, false, false, false, false, false, false, false, false, false, false, false, false, false, false, false, false, false, false, false, false, false, false, false, false, false, false, false, false, false, false, false, false] (by kernel_rfl) rfl rfl ⟨(blk_cell BK0.out 0).trans rfl, (blk_cell BK0.out 1).trans rfl, (blk_cell BK0.out 2).trans rfl, (blk_cell BK0.out 3).trans rfl, (blk_cell BK0.out 4).trans rfl, (blk_cell BK1.out 0).trans rfl, (blk_cell BK1.out 1).trans rfl, (blk_cell BK2.out 0).trans rfl, (blk_cell BK2.out 1).trans rfl⟩ (fun hHeld => ?_)
        refine with_tabW corrielaw05_LayoutApart.tab9 corrielaw05_LayoutApart.bits9 (fun HT_ HW_ => ?_)
        generalize w2.drew = W9_2 at BK0 BK1 BK2 HB hHeld ⊢
        refine pure_ (i := 0) (N := some 50) (v := ?_) (a' := ?_) #[true, false, false, false, false, false, false, false, false, false, false, false, false, false, false, false, false, false, false, false, false, false, false, false, false, false, false, false, false, false, false, false, false, false, false, false, false, false, false, false, false, false, false, false, false, false, false, false, false, false] rfl rfl (any_of HT_.out (by kernel_rfl)) (fun _ _ _ h => h) (Or.inl ⟨by rfl, ?_⟩) ?_ ?_
        rotate_left
        · intro w'
          go_simp
          with_reducible rfl
        rotate_left
        · simp only [Act.put, List.setIfInBounds_toArray, List.set_cons_zero, List.set_cons_succ, i64_w, i32_w]
          rfl
        refine pure_ (i := 1) (N := some 51) (v := ?_) (a' := ?_) #[true, true, false, false, false, false, false, false, false, false, false, false, false, false, false, false, false, false, false, false, false, false, false, false, false, false, false, false, false, false, false, false, false, false, false, false, false, false, false, false, false, false, false, false, false, false, false, false, false, false] rfl rfl (any_of HT_.out (by kernel_rfl)) (fun _ _ _ h => h) (Or.inl ⟨by rfl, ?_⟩) ?_ ?_
        rotate_left
        · intro w'
          go_simp
          with_reducible rfl
        rotate_left
        · simp only [Act.put, List.setIfInBounds_toArray, List.set_cons_zero, List.set_cons_succ, i64_w, i32_w]
          rfl
        refine pure_ (i := 3) (N := some 53) (v := ?_) (a' := ?_) #[true, true, false, true, false, false, false, false, false, false, false, false, false, false, false, false, false, false, false, false, false, false, false, false, false, false, false, false, false, false, false, false, false, false, false, false, false, false, false, false, false, false, false, false, false, false, false, false, false, false] rfl rfl (any_of HT_.out (by kernel_rfl)) (fun _ _ _ h => h) (Or.inl ⟨by rfl, ?_⟩) ?_ ?_
        rotate_left
        · intro w'
          go_simp
          with_reducible rfl
        rotate_left
        · simp only [Act.put, List.setIfInBounds_toArray, List.set_cons_zero, List.set_cons_succ, i64_w, i32_w]
          rfl
        refine pure_ (i := 4) (N := some 54) (v := ?_) (a' := ?_) #[true, true, false, true, true, false, false, false, false, false, false, false, false, false, false, false, false, false, false, false, false, false, false, false, false, false, false, false, false, false, false, false, false, false, false, false, false, false, false, false, false, false, false, false, false, false, false, false, false, false] rfl rfl (any_of HT_.out (by kernel_rfl)) (fun _ _ _ h => h) (Or.inl ⟨by rfl, ?_⟩) ?_ ?_
        rotate_left
        · intro w'
          go_simp
          with_reducible rfl
        rotate_left
        · simp only [Act.put, List.setIfInBounds_toArray, List.set_cons_zero, List.set_cons_succ, i64_w, i32_w]
          rfl
        refine pure_ (i := 7) (N := some 57) (v := ?_) (a' := ?_) #[true, true, false, true, true, false, false, true, false, false, false, false, false, false, false, false, false, false, false, false, false, false, false, false, false, false, false, false, false, false, false, false, false, false, false, false, false, false, false, false, false, false, false, false, false, false, false, false, false, false] rfl rfl (any_of HT_.out (by kernel_rfl)) (fun _ _ _ h => h) (Or.inl ⟨by rfl, ?_⟩) ?_ ?_
        rotate_left
        · intro w'
          go_simp
          with_reducible rfl
        rotate_left
        · simp only [Act.put, List.setIfInBounds_toArray, List.set_cons_zero, List.set_cons_succ, i64_w, i32_w]
          rfl
        refine pure_ (i := 8) (N := some 58) (v := ?_) (a' := ?_) #[true, true, false, true, true, false, false, true, true, false, false, false, false, false, false, false, false, false, false, false, false, false, false, false, false, false, false, false, false, false, false, false, false, false, false, false, false, false, false, false, false, false, false, false, false, false, false, false, false, false] rfl rfl (any_of HT_.out (by kernel_rfl)) (fun _ _ _ h => h) (Or.inl ⟨by rfl, ?_⟩) ?_ ?_
        rotate_left
        · intro w'
          go_simp
          with_reducible rfl
        rotate_left
        · simp only [Act.put, List.setIfInBounds_toArray, List.set_cons_zero, List.set_cons_succ, i64_w, i32_w]
          rfl
        refine pure_ (i := 11) (N := some 61) (v := ?_) (a' := ?_) #[true, true, false, true, true, false, false, true, true, false, false, true, false, false, false, false, false, false, false, false, false, false, false, false, false, false, false, false, false, false, false, false, false, false, false, false, false, false, false, false, false, false, false, false, false, false, false, false, false, false] rfl rfl (any_of HT_.out (by kernel_rfl)) (fun _ _ _ h => h) (Or.inl ⟨by rfl, ?_⟩) ?_ ?_
        rotate_left
        · intro w'
          go_simp
          with_reducible rfl
        rotate_left
        · simp only [Act.put, List.setIfInBounds_toArray, List.set_cons_zero, List.set_cons_succ, i64_w, i32_w]
          rfl
        refine take_ (i := 2) (N := some 52) (v := ?_) (a' := ?_) #[true, true, true, true, true, false, false, true, true, false, false, true, false, false, false, false, false, false, false, false, false, false, false, false, false, false, false, false, false, false, false, false, false, false, false, false, false, false, false, false, false, false, false, false, false, false, false, false, false, false] rfl rfl (take_ofW HT_.out HW_.out (by kernel_rfl)) (fun _ _ _ h => h) (Or.inl ⟨by rfl, ?_⟩) hHeld ?_ ?_
        rotate_left
        · rintro w' ⟨s0, s1, s2, s3, s4, s5, s6, s7, s8⟩
          go_simp
          with_reducible rfl
        rotate_left
        · simp only [Act.put, List.setIfInBounds_toArray, List.set_cons_zero, List.set_cons_succ, i64_w, i32_w]
          rfl
        refine take_ (i := 6) (N := some 56) (v := ?_) (a' := ?_) #[true, true, true, true, true, false, true, true, true, false, false, true, false, false, false, false, false, false, false, false, false, false, false, false, false, false, false, false, false, false, false, false, false, false, false, false, false, false, false, false, false, false, false, false, false, false, false, false, false, false] rfl rfl (take_ofW HT_.out HW_.out (by kernel_rfl)) (fun _ _ _ h => h) (Or.inl ⟨by rfl, ?_⟩) hHeld ?_ ?_
        rotate_left
        · rintro w' ⟨s0, s1, s2, s3, s4, s5, s6, s7, s8⟩
          go_simp
          with_reducible rfl
        rotate_left
        · simp only [Act.put, List.setIfInBounds_toArray, List.set_cons_zero, List.set_cons_succ, i64_w, i32_w]
          rfl
        refine one_ (i := 5) (N := some 55) #[true, true, true, true, true, true, true, true, true, false, false, true, false, false, false, false, false, false, false, false, false, false, false, false, false, false, false, false, false, false, false, false, false, false, false, false, false, false, false, false, false, false, false, false, false, false, false, false, false, false] rfl rfl (one_of HT_.out (by kernel_rfl)) (by decide) (fun K hK => ?_)
        refine goes_ Try.func19 (by kernel_rfl) rfl #[.agg #[.int .i64 t, .int .i64 b, .int .i64 i, .int .i64 f, .int .i64 c], .int .i64 (Int.tmod (wrap64 p) t), .int .i64 (Int.tmod (wrap64 x) c)] (by rfl) rfl rfl (by (try simp only [List.map_toArray, List.map_cons, List.map_nil]); first | done | rfl) ?_
        with_reducible refine (layout_Node.calls k t b i f c (Int.tmod (wrap64 p) t) (Int.tmod (wrap64 x) c) v0 _ Hv0.out).mono ?_
        rintro e w3 ⟨rfl, hb⟩
        refine ⟨_, rfl, ?_⟩
        have n0_ := Aside0.mk (blk_below BK0.out hb)
        clear BK0
        have BK0 := n0_
        clear n0_
        have n1_ := Aside0.mk (blk_below BK1.out hb)
        clear BK1
        have BK1 := n1_
        clear n1_
        have n2_ := Aside0.mk (blk_below BK2.out hb)
        clear BK2
        have BK2 := n2_
        clear n2_
        have nh_ := Aside0.mk (below_step HB.out hb)
        clear HB hb
        have HB := nh_
        clear nh_
        refine hK.out _ _ ⟨(blk_cell BK0.out 0).trans rfl, (blk_cell BK0.out 1).trans rfl, (blk_cell BK0.out 2).trans rfl, (blk_cell BK0.out 3).trans rfl, (blk_cell BK0.out 4).trans rfl, (blk_cell BK1.out 0).trans rfl, (blk_cell BK1.out 1).trans rfl, (blk_cell BK2.out 0).trans rfl, (blk_cell BK2.out 1).trans rfl⟩ (fun hHeld => ?_)
        clear hK K
        refine norm_ (a' := ?_) ?_ ?_
        rotate_left
        · show Act.put _ (some 55) _ = _
          simp only [Act.put, List.setIfInBounds_toArray, List.set_cons_zero, List.set_cons_succ, i64_w, i32_w]
          rfl
        refine one_ (i := 9) (N := some 59) #[true, true, true, true, true, true, true, true, true, true, false, true, false, false, false, false, false, false, false, false, false, false, false, false, false, false, false, false, false, false, false, false, false, false, false, false, false, false, false, false, false, false, false, false, false, false, false, false, false, false] rfl rfl (one_of HT_.out (by kernel_rfl)) (by decide) (fun K hK => ?_)
        refine goes_ Try.func19 (by kernel_rfl) rfl #[.agg #[.int .i64 t, .int .i64 b, .int .i64 i, .int .i64 f, .int .i64 c], .int .i64 (Int.tmod (wrap64 q) t), .int .i64 (Int.tmod (wrap64 y) c)] (by rfl) rfl rfl (by (try simp only [List.map_toArray, List.map_cons, List.map_nil]); first | done | rfl) ?_
        with_reducible refine (layout_Node.calls k t b i f c (Int.tmod (wrap64 q) t) (Int.tmod (wrap64 y) c) u0 _ Hu0.out).mono ?_
        rintro e w4 ⟨rfl, hb⟩
        refine ⟨_, rfl, ?_⟩
        have n0_ := Aside0.mk (blk_below BK0.out hb)
        clear BK0
        have BK0 := n0_
        clear n0_
        have n1_ := Aside0.mk (blk_below BK1.out hb)
        clear BK1
        have BK1 := n1_
        clear n1_
        have n2_ := Aside0.mk (blk_below BK2.out hb)
        clear BK2
        have BK2 := n2_
        clear n2_
        have nh_ := Aside0.mk (below_step HB.out hb)
        clear HB hb
        have HB := nh_
        clear nh_
        refine hK.out _ _ ⟨(blk_cell BK0.out 0).trans rfl, (blk_cell BK0.out 1).trans rfl, (blk_cell BK0.out 2).trans rfl, (blk_cell BK0.out 3).trans rfl, (blk_cell BK0.out 4).trans rfl, (blk_cell BK1.out 0).trans rfl, (blk_cell BK1.out 1).trans rfl, (blk_cell BK2.out 0).trans rfl, (blk_cell BK2.out 1).trans rfl⟩ (fun hHeld => ?_)
        clear hK K
        refine norm_ (a' := ?_) ?_ ?_
        rotate_left
        · show Act.put _ (some 59) _ = _
          simp only [Act.put, List.setIfInBounds_toArray, List.set_cons_zero, List.set_cons_succ, i64_w, i32_w]
          rfl
        refine pure_ (i := 10) (N := some 60) (v := ?_) (a' := ?_) #[true, true, true, true, true, true, true, true, true, true, true, true, false, false, false, false, false, false, false, false, false, false, false, false, false, false, false, false, false, false, false, false, false, false, false, false, false, false, false, false, false, false, false, false, false, false, false, false, false, false] rfl rfl (any_of HT_.out (by kernel_rfl)) (fun _ _ _ h => h) (Or.inl ⟨by rfl, ?_⟩) ?_ ?_
        rotate_left
        · intro w'
          go_simp
          with_reducible rfl
        rotate_left
        · simp only [Act.put, List.setIfInBounds_toArray, List.set_cons_zero, List.set_cons_succ, i64_w, i32_w]
          rfl
        refine pure_ (i := 12) (N := some 62) (v := ?_) (a' := ?_) #[true, true, true, true, true, true, true, true, true, true, true, true, true, false, false, false, false, false, false, false, false, false, false, false, false, false, false, false, false, false, false, false, false, false, false, false, false, false, false, false, false, false, false, false, false, false, false, false, false, false] rfl rfl (any_of HT_.out (by kernel_rfl)) (fun _ _ _ h => h) (Or.inl ⟨by rfl, ?_⟩) ?_ ?_
        rotate_left
        · intro w'
          go_simp
          with_reducible rfl
        rotate_left
        · simp only [Act.put, List.setIfInBounds_toArray, List.set_cons_zero, List.set_cons_succ, i64_w, i32_w]
          rfl
        refine pure_ (i := 13) (N := some 63) (v := ?_) (a' := ?_) #[true, true, true, true, true, true, true, true, true, true, true, true, true, true, false, false, false, false, false, false, false, false, false, false, false, false, false, false, false, false, false, false, false, false, false, false, false, false, false, false, false, false, false, false, false, false, false, false, false, false] rfl rfl (any_of HT_.out (by kernel_rfl)) (fun _ _ _ h => h) (Or.inl ⟨by rfl, ?_⟩) ?_ ?_
        rotate_left
        · intro w'
          go_simp
          with_reducible rfl
        rotate_left
        · simp only [Act.put, List.setIfInBounds_toArray, List.set_cons_zero, List.set_cons_succ, i64_w, i32_w]
          rfl
        refine pure_ (i := 14) (N := some 64) (v := ?_) (a' := ?_) #[true, true, true, true, true, true, true, true, true, true, true, true, true, true, true, false, false, false, false, false, false, false, false, false, false, false, false, false, false, false, false, false, false, false, false, false, false, false, false, false, false, false, false, false, false, false, false, false, false, false] rfl rfl (any_of HT_.out (by kernel_rfl)) (fun _ _ _ h => h) (Or.inl ⟨by rfl, ?_⟩) ?_ ?_
        rotate_left
        · intro w'
          go_simp
          with_reducible rfl
        rotate_left
        · simp only [Act.put, List.setIfInBounds_toArray, List.set_cons_zero, List.set_cons_succ, i64_w, i32_w]
          rfl
        refine pure_ (i := 16) (N := some 66) (v := ?_) (a' := ?_) #[true, true, true, true, true, true, true, true, true, true, true, true, true, true, true, false, true, false, false, false, false, false, false, false, false, false, false, false, false, false, false, false, false, false, false, false, false, false, false, false, false, false, false, false, false, false, false, false, false, false] rfl rfl (any_of HT_.out (by kernel_rfl)) (fun _ _ _ h => h) (Or.inl ⟨by rfl, ?_⟩) ?_ ?_
        rotate_left
        · intro w'
          go_simp
          with_reducible rfl
        rotate_left
        · simp only [Act.put, List.setIfInBounds_toArray, List.set_cons_zero, List.set_cons_succ, i64_w, i32_w]
          rfl
        refine pure_ (i := 17) (N := some 67) (v := ?_) (a' := ?_) #[true, true, true, true, true, true, true, true, true, true, true, true, true, true, true, false, true, true, false, false, false, false, false, false, false, false, false, false, false, false, false, false, false, false, false, false, false, false, false, false, false, false, false, false, false, false, false, false, false, false] rfl rfl (any_of HT_.out (by kernel_rfl)) (fun _ _ _ h => h) (Or.inl ⟨by rfl, ?_⟩) ?_ ?_
        rotate_left
        · intro w'
          go_simp
          with_reducible rfl
        rotate_left
        · simp only [Act.put, List.setIfInBounds_toArray, List.set_cons_zero, List.set_cons_succ, i64_w, i32_w]
          rfl
        refine pure_ (i := 20) (N := some 70) (v := ?_) (a' := ?_) #[true, true, true, true, true, true, true, true, true, true, true, true, true, true, true, false, true, true, false, false, true, false, false, false, false, false, false, false, false, false, false, false, false, false, false, false, false, false, false, false, false, false, false, false, false, false, false, false, false, false] rfl rfl (any_of HT_.out (by kernel_rfl)) (fun _ _ _ h => h) (Or.inl ⟨by rfl, ?_⟩) ?_ ?_
        rotate_left
        · intro w'
          go_simp
          with_reducible rfl
        rotate_left
        · simp only [Act.put, List.setIfInBounds_toArray, List.set_cons_zero, List.set_cons_succ, i64_w, i32_w]
          rfl
        refine pure_ (i := 21) (N := some 71) (v := ?_) (a' := ?_) #[true, true, true, true, true, true, true, true, true, true, true, true, true, true, true, false, true, true, false, false, true, true, false, false, false, false, false, false, false, false, false, false, false, false, false, false, false, false, false, false, false, false, false, false, false, false, false, false, false, false] rfl rfl (any_of HT_.out (by kernel_rfl)) (fun _ _ _ h => h) (Or.inl ⟨by rfl, ?_⟩) ?_ ?_
        rotate_left
        · intro w'
          go_simp
          with_reducible rfl
        rotate_left
        · simp only [Act.put, List.setIfInBounds_toArray, List.set_cons_zero, List.set_cons_succ, i64_w, i32_w]
          rfl
        refine pure_ (i := 24) (N := some 74) (v := ?_) (a' := ?_) #[true, true, true, true, true, true, true, true, true, true, true, true, true, true, true, false, true, true, false, false, true, true, false, false, true, false, false, false, false, false, false, false, false, false, false, false, false, false, false, false, false, false, false, false, false, false, false, false, false, false] rfl rfl (any_of HT_.out (by kernel_rfl)) (fun _ _ _ h => h) (Or.inl ⟨by rfl, ?_⟩) ?_ ?_
        rotate_left
        · intro w'
          go_simp
          with_reducible rfl
        rotate_left
        · simp only [Act.put, List.setIfInBounds_toArray, List.set_cons_zero, List.set_cons_succ, i64_w, i32_w]
          rfl
        refine take_ (i := 15) (N := some 65) (v := ?_) (a' := ?_) #[true, true, true, true, true, true, true, true, true, true, true, true, true, true, true, true, true, true, false, false, true, true, false, false, true, false, false, false, false, false, false, false, false, false, false, false, false, false, false, false, false, false, false, false, false, false, false, false, false, false] rfl rfl (take_ofW HT_.out HW_.out (by kernel_rfl)) (fun _ _ _ h => h) (Or.inl ⟨by rfl, ?_⟩) hHeld ?_ ?_
        rotate_left
        · rintro w' ⟨s0, s1, s2, s3, s4, s5, s6, s7, s8⟩
          go_simp
          with_reducible rfl
        rotate_left
        · simp only [Act.put, List.setIfInBounds_toArray, List.set_cons_zero, List.set_cons_succ, i64_w, i32_w]
          rfl
        refine take_ (i := 19) (N := some 69) (v := ?_) (a' := ?_) #[true, true, true, true, true, true, true, true, true, true, true, true, true, true, true, true, true, true, false, true, true, true, false, false, true, false, false, false, false, false, false, false, false, false, false, false, false, false, false, false, false, false, false, false, false, false, false, false, false, false] rfl rfl (take_ofW HT_.out HW_.out (by kernel_rfl)) (fun _ _ _ h => h) (Or.inl ⟨by rfl, ?_⟩) hHeld ?_ ?_
        rotate_left
        · rintro w' ⟨s0, s1, s2, s3, s4, s5, s6, s7, s8⟩
          go_simp
          with_reducible rfl
        rotate_left
        · simp only [Act.put, List.setIfInBounds_toArray, List.set_cons_zero, List.set_cons_succ, i64_w, i32_w]
          rfl
        refine one_ (i := 18) (N := some 68) #[true, true, true, true, true, true, true, true, true, true, true, true, true, true, true, true, true, true, true, true, true, true, false, false, true, false, false, false, false, false, false, false, false, false, false, false, false, false, false, false, false, false, false, false, false, false, false, false, false, false] rfl rfl (one_of HT_.out (by kernel_rfl)) (by decide) (fun K hK => ?_)
        refine goes_ Try.func21 (by kernel_rfl) rfl #[.agg #[.int .i64 t, .int .i64 b, .int .i64 i, .int .i64 f, .int .i64 c], .int .i64 (Int.tmod (wrap64 p) t), .int .i64 (Int.tmod (wrap64 x) c)] (by rfl) rfl rfl (by (try simp only [List.map_toArray, List.map_cons, List.map_nil]); first | done | rfl) ?_
        with_reducible refine (layout_Op.calls k t b i f c (Int.tmod (wrap64 p) t) (Int.tmod (wrap64 x) c) v1 _ Hv1.out).mono ?_
        rintro e w5 ⟨rfl, hb⟩
        refine ⟨_, rfl, ?_⟩
        have n0_ := Aside0.mk (blk_below BK0.out hb)
        clear BK0
        have BK0 := n0_
        clear n0_
        have n1_ := Aside0.mk (blk_below BK1.out hb)
        clear BK1
        have BK1 := n1_
        clear n1_
        have n2_ := Aside0.mk (blk_below BK2.out hb)
        clear BK2
        have BK2 := n2_
        clear n2_
        have nh_ := Aside0.mk (below_step HB.out hb)
        clear HB hb
        have HB := nh_
        clear nh_
        refine hK.out _ _ ⟨(blk_cell BK0.out 0).trans rfl, (blk_cell BK0.out 1).trans rfl, (blk_cell BK0.out 2).trans rfl, (blk_cell BK0.out 3).trans rfl, (blk_cell BK0.out 4).trans rfl, (blk_cell BK1.out 0).trans rfl, (blk_cell BK1.out 1).trans rfl, (blk_cell BK2.out 0).trans rfl, (blk_cell BK2.out 1).trans rfl⟩ (fun hHeld => ?_)
        clear hK K
        refine norm_ (a' := ?_) ?_ ?_
        rotate_left
        · show Act.put _ (some 68) _ = _
          simp only [Act.put, List.setIfInBounds_toArray, List.set_cons_zero, List.set_cons_succ, i64_w, i32_w]
          rfl
        refine one_ (i := 22) (N := some 72) #[true, true, true, true, true, true, true, true, true, true, true, true, true, true, true, true, true, true, true, true, true, true, true, false, true, false, false, false, false, false, false, false, false, false, false, false, false, false, false, false, false, false, false, false, false, false, false, false, false, false] rfl rfl (one_of HT_.out (by kernel_rfl)) (by decide) (fun K hK => ?_)
        refine goes_ Try.func21 (by kernel_rfl) rfl #[.agg #[.int .i64 t, .int .i64 b, .int .i64 i, .int .i64 f, .int .i64 c], .int .i64 (Int.tmod (wrap64 q) t), .int .i64 (Int.tmod (wrap64 y) c)] (by rfl) rfl rfl (by (try simp only [List.map_toArray, List.map_cons, List.map_nil]); first | done | rfl) ?_
        with_reducible refine (layout_Op.calls k t b i f c (Int.tmod (wrap64 q) t) (Int.tmod (wrap64 y) c) u1 _ Hu1.out).mono ?_
        rintro e w6 ⟨rfl, hb⟩
        refine ⟨_, rfl, ?_⟩
        have n0_ := Aside0.mk (blk_below BK0.out hb)
        clear BK0
        have BK0 := n0_
        clear n0_
        have n1_ := Aside0.mk (blk_below BK1.out hb)
        clear BK1
        have BK1 := n1_
        clear n1_
        have n2_ := Aside0.mk (blk_below BK2.out hb)
        clear BK2
        have BK2 := n2_
        clear n2_
        have nh_ := Aside0.mk (below_step HB.out hb)
        clear HB hb
        have HB := nh_
        clear nh_
        refine hK.out _ _ ⟨(blk_cell BK0.out 0).trans rfl, (blk_cell BK0.out 1).trans rfl, (blk_cell BK0.out 2).trans rfl, (blk_cell BK0.out 3).trans rfl, (blk_cell BK0.out 4).trans rfl, (blk_cell BK1.out 0).trans rfl, (blk_cell BK1.out 1).trans rfl, (blk_cell BK2.out 0).trans rfl, (blk_cell BK2.out 1).trans rfl⟩ (fun hHeld => ?_)
        clear hK K
        refine norm_ (a' := ?_) ?_ ?_
        rotate_left
        · show Act.put _ (some 72) _ = _
          simp only [Act.put, List.setIfInBounds_toArray, List.set_cons_zero, List.set_cons_succ, i64_w, i32_w]
          rfl
        refine pure_ (i := 23) (N := some 73) (v := ?_) (a' := ?_) #[true, true, true, true, true, true, true, true, true, true, true, true, true, true, true, true, true, true, true, true, true, true, true, true, true, false, false, false, false, false, false, false, false, false, false, false, false, false, false, false, false, false, false, false, false, false, false, false, false, false] rfl rfl (any_of HT_.out (by kernel_rfl)) (fun _ _ _ h => h) (Or.inl ⟨by rfl, ?_⟩) ?_ ?_
        rotate_left
        · intro w'
          go_simp
          with_reducible rfl
        rotate_left
        · simp only [Act.put, List.setIfInBounds_toArray, List.set_cons_zero, List.set_cons_succ, i64_w, i32_w]
          rfl
        refine pure_ (i := 25) (N := some 75) (v := ?_) (a' := ?_) #[true, true, true, true, true, true, true, true, true, true, true, true, true, true, true, true, true, true, true, true, true, true, true, true, true, true, false, false, false, false, false, false, false, false, false, false, false, false, false, false, false, false, false, false, false, false, false, false, false, false] rfl rfl (any_of HT_.out (by kernel_rfl)) (fun _ _ _ h => h) (Or.inl ⟨by rfl, ?_⟩) ?_ ?_
        rotate_left
        · intro w'
          go_simp
          with_reducible rfl
        rotate_left
        · simp only [Act.put, List.setIfInBounds_toArray, List.set_cons_zero, List.set_cons_succ, i64_w, i32_w]
          rfl
        refine pure_ (i := 26) (N := some 76) (v := ?_) (a' := ?_) #[true, true, true, true, true, true, true, true, true, true, true, true, true, true, true, true, true, true, true, true, true, true, true, true, true, true, true, false, false, false, false, false, false, false, false, false, false, false, false, false, false, false, false, false, false, false, false, false, false, false] rfl rfl (any_of HT_.out (by kernel_rfl)) (fun _ _ _ h => h) (Or.inl ⟨by rfl, ?_⟩) ?_ ?_
        rotate_left
        · intro w'
          go_simp
          with_reducible rfl
        rotate_left
        · simp only [Act.put, List.setIfInBounds_toArray, List.set_cons_zero, List.set_cons_succ, i64_w, i32_w]
          rfl
        refine pure_ (i := 27) (N := some 77) (v := ?_) (a' := ?_) #[true, true, true, true, true, true, true, true, true, true, true, true, true, true, true, true, true, true, true, true, true, true, true, true, true, true, true, true, false, false, false, false, false, false, false, false, false, false, false, false, false, false, false, false, false, false, false, false, false, false] rfl rfl (any_of HT_.out (by kernel_rfl)) (fun _ _ _ h => h) (Or.inl ⟨by rfl, ?_⟩) ?_ ?_
        rotate_left
        · intro w'
          go_simp
          with_reducible rfl
        rotate_left
        · simp only [Act.put, List.setIfInBounds_toArray, List.set_cons_zero, List.set_cons_succ, i64_w, i32_w]
          rfl
        refine pure_ (i := 29) (N := some 79) (v := ?_) (a' := ?_) #[true, true, true, true, true, true, true, true, true, true, true, true, true, true, true, true, true, true, true, true, true, true, true, true, true, true, true, true, false, true, false, false, false, false, false, false, false, false, false, false, false, false, false, false, false, false, false, false, false, false] rfl rfl (any_of HT_.out (by kernel_rfl)) (fun _ _ _ h => h) (Or.inl ⟨by rfl, ?_⟩) ?_ ?_
        rotate_left
        · intro w'
          go_simp
          with_reducible rfl
        rotate_left
        · simp only [Act.put, List.setIfInBounds_toArray, List.set_cons_zero, List.set_cons_succ, i64_w, i32_w]
          rfl
        refine pure_ (i := 30) (N := some 80) (v := ?_) (a' := ?_) #[true, true, true, true, true, true, true, true, true, true, true, true, true, true, true, true, true, true, true, true, true, true, true, true, true, true, true, true, false, true, true, false, false, false, false, false, false, false, false, false, false, false, false, false, false, false, false, false, false, false] rfl rfl (any_of HT_.out (by kernel_rfl)) (fun _ _ _ h => h) (Or.inl ⟨by rfl, ?_⟩) ?_ ?_
        rotate_left
        · intro w'
          go_simp
          with_reducible rfl
        rotate_left
        · simp only [Act.put, List.setIfInBounds_toArray, List.set_cons_zero, List.set_cons_succ, i64_w, i32_w]
          rfl
        refine pure_ (i := 33) (N := some 83) (v := ?_) (a' := ?_) #[true, true, true, true, true, true, true, true, true, true, true, true, true, true, true, true, true, true, true, true, true, true, true, true, true, true, true, true, false, true, true, false, false, true, false, false, false, false, false, false, false, false, false, false, false, false, false, false, false, false] rfl rfl (any_of HT_.out (by kernel_rfl)) (fun _ _ _ h => h) (Or.inl ⟨by rfl, ?_⟩) ?_ ?_
        rotate_left
        · intro w'
          go_simp
          with_reducible rfl
        rotate_left
        · simp only [Act.put, List.setIfInBounds_toArray, List.set_cons_zero, List.set_cons_succ, i64_w, i32_w]
          rfl
        refine take_ (i := 28) (N := some 78) (v := ?_) (a' := ?_) #[true, true, true, true, true, true, true, true, true, true, true, true, true, true, true, true, true, true, true, true, true, true, true, true, true, true, true, true, true, true, true, false, false, true, false, false, false, false, false, false, false, false, false, false, false, false, false, false, false, false] rfl rfl (take_ofW HT_.out HW_.out (by kernel_rfl)) (fun _ _ _ h => h) (Or.inl ⟨by rfl, ?_⟩) hHeld ?_ ?_
        rotate_left
        · rintro w' ⟨s0, s1, s2, s3, s4, s5, s6, s7, s8⟩
          go_simp
          with_reducible rfl
        rotate_left
        · simp only [Act.put, List.setIfInBounds_toArray, List.set_cons_zero, List.set_cons_succ, i64_w, i32_w]
          rfl
        refine take_ (i := 32) (N := some 82) (v := ?_) (a' := ?_) #[true, true, true, true, true, true, true, true, true, true, true, true, true, true, true, true, true, true, true, true, true, true, true, true, true, true, true, true, true, true, true, false, true, true, false, false, false, false, false, false, false, false, false, false, false, false, false, false, false, false] rfl rfl (take_ofW HT_.out HW_.out (by kernel_rfl)) (fun _ _ _ h => h) (Or.inl ⟨by rfl, ?_⟩) hHeld ?_ ?_
        rotate_left
        · rintro w' ⟨s0, s1, s2, s3, s4, s5, s6, s7, s8⟩
          go_simp
          with_reducible rfl
        rotate_left
        · simp only [Act.put, List.setIfInBounds_toArray, List.set_cons_zero, List.set_cons_succ, i64_w, i32_w]
          rfl
        refine take_ (i := 34) (N := some 84) (v := ?_) (a' := ?_) #[true, true, true, true, true, true, true, true, true, true, true, true, true, true, true, true, true, true, true, true, true, true, true, true, true, true, true, true, true, true, true, false, true, true, true, false, false, false, false, false, false, false, false, false, false, false, false, false, false, false] rfl rfl (take_ofW HT_.out HW_.out (by kernel_rfl)) (fun _ _ _ h => h) (Or.inl ⟨by rfl, ?_⟩) hHeld ?_ ?_
        rotate_left
        · rintro w' ⟨s0, s1, s2, s3, s4, s5, s6, s7, s8⟩
          go_simp
          with_reducible rfl
        rotate_left
        · simp only [Act.put, List.setIfInBounds_toArray, List.set_cons_zero, List.set_cons_succ, i64_w, i32_w]
          rfl
        refine pure_ (i := 35) (N := some 85) (v := ?_) (a' := ?_) #[true, true, true, true, true, true, true, true, true, true, true, true, true, true, true, true, true, true, true, true, true, true, true, true, true, true, true, true, true, true, true, false, true, true, true, true, false, false, false, false, false, false, false, false, false, false, false, false, false, false] rfl rfl (any_of HT_.out (by kernel_rfl)) (fun _ _ _ h => h) (Or.inl ⟨by rfl, ?_⟩) ?_ ?_
        rotate_left
        · intro w'
          go_simp
          with_reducible rfl
        rotate_left
        · simp only [Act.put, List.setIfInBounds_toArray, List.set_cons_zero, List.set_cons_succ, i64_w, i32_w]
          rfl
        refine one_ (i := 31) (N := some 81) #[true, true, true, true, true, true, true, true, true, true, true, true, true, true, true, true, true, true, true, true, true, true, true, true, true, true, true, true, true, true, true, true, true, true, true, true, false, false, false, false, false, false, false, false, false, false, false, false, false, false] rfl rfl (one_of HT_.out (by kernel_rfl)) (by decide) (fun K hK => ?_)
        refine goes_ Try.func19 (by kernel_rfl) rfl #[.agg #[.int .i64 t, .int .i64 b, .int .i64 i, .int .i64 f, .int .i64 c], .int .i64 (Int.tmod (wrap64 p) t), .int .i64 (Int.tmod (wrap64 x) c)] (by rfl) rfl rfl (by (try simp only [List.map_toArray, List.map_cons, List.map_nil]); first | done | rfl) ?_
        with_reducible refine (layout_Node.calls k t b i f c (Int.tmod (wrap64 p) t) (Int.tmod (wrap64 x) c) v2 _ Hv2.out).mono ?_
        rintro e w7 ⟨rfl, hb⟩
        refine ⟨_, rfl, ?_⟩
        have n0_ := Aside0.mk (blk_below BK0.out hb)
        clear BK0
        have BK0 := n0_
        clear n0_
        have n1_ := Aside0.mk (blk_below BK1.out hb)
        clear BK1
        have BK1 := n1_
        clear n1_
        have n2_ := Aside0.mk (blk_below BK2.out hb)
        clear BK2
        have BK2 := n2_
        clear n2_
        have nh_ := Aside0.mk (below_step HB.out hb)
        clear HB hb
        have HB := nh_
        clear nh_
        refine hK.out _ _ ⟨(blk_cell BK0.out 0).trans rfl, (blk_cell BK0.out 1).trans rfl, (blk_cell BK0.out 2).trans rfl, (blk_cell BK0.out 3).trans rfl, (blk_cell BK0.out 4).trans rfl, (blk_cell BK1.out 0).trans rfl, (blk_cell BK1.out 1).trans rfl, (blk_cell BK2.out 0).trans rfl, (blk_cell BK2.out 1).trans rfl⟩ (fun hHeld => ?_)
        clear hK K
        refine norm_ (a' := ?_) ?_ ?_
        rotate_left
        · show Act.put _ (some 81) _ = _
          simp only [Act.put, List.setIfInBounds_toArray, List.set_cons_zero, List.set_cons_succ, i64_w, i32_w]
          rfl
        refine one_ (i := 36) (N := some 86) #[true, true, true, true, true, true, true, true, true, true, true, true, true, true, true, true, true, true, true, true, true, true, true, true, true, true, true, true, true, true, true, true, true, true, true, true, true, false, false, false, false, false, false, false, false, false, false, false, false, false] rfl rfl (one_of HT_.out (by kernel_rfl)) (by decide) (fun K hK => ?_)
        refine goes_ Try.func17 (by kernel_rfl) rfl #[.agg #[.int .i64 t, .int .i64 b, .int .i64 i, .int .i64 f, .int .i64 c], .int .i64 (wrap64 (b - 1))] (by rfl) rfl rfl (by (try simp only [List.map_toArray, List.map_cons, List.map_nil]); first | done | rfl) ?_
        with_reducible refine (layout_Head.calls k t b i f c (wrap64 (b - 1)) u2 _ Hu2.out).mono ?_
        rintro e w8 ⟨rfl, hb⟩
        refine ⟨_, rfl, ?_⟩
        have n0_ := Aside0.mk (blk_below BK0.out hb)
        clear BK0
        have BK0 := n0_
        clear n0_
        have n1_ := Aside0.mk (blk_below BK1.out hb)
        clear BK1
        have BK1 := n1_
        clear n1_
        have n2_ := Aside0.mk (blk_below BK2.out hb)
        clear BK2
        have BK2 := n2_
        clear n2_
        have nh_ := Aside0.mk (below_step HB.out hb)
        clear HB hb
        have HB := nh_
        clear nh_
        refine hK.out _ _ ⟨(blk_cell BK0.out 0).trans rfl, (blk_cell BK0.out 1).trans rfl, (blk_cell BK0.out 2).trans rfl, (blk_cell BK0.out 3).trans rfl, (blk_cell BK0.out 4).trans rfl, (blk_cell BK1.out 0).trans rfl, (blk_cell BK1.out 1).trans rfl, (blk_cell BK2.out 0).trans rfl, (blk_cell BK2.out 1).trans rfl⟩ (fun hHeld => ?_)
        clear hK K
        refine norm_ (a' := ?_) ?_ ?_
        rotate_left
        · show Act.put _ (some 86) _ = _
          simp only [Act.put, List.setIfInBounds_toArray, List.set_cons_zero, List.set_cons_succ, i64_w, i32_w]
          rfl
        refine pure_ (i := 37) (N := some 87) (v := ?_) (a' := ?_) #[true, true, true, true, true, true, true, true, true, true, true, true, true, true, true, true, true, true, true, true, true, true, true, true, true, true, true, true, true, true, true, true, true, true, true, true, true, true, false, false, false, false, false, false, false, false, false, false, false, false] rfl rfl (any_of HT_.out (by kernel_rfl)) (fun _ _ _ h => h) (Or.inl ⟨by rfl, ?_⟩) ?_ ?_
        rotate_left
        · intro w'
          go_simp
          with_reducible rfl
        rotate_left
        · simp only [Act.put, List.setIfInBounds_toArray, List.set_cons_zero, List.set_cons_succ, i64_w, i32_w]
          rfl
        refine pure_ (i := 38) (N := some 88) (v := ?_) (a' := ?_) #[true, true, true, true, true, true, true, true, true, true, true, true, true, true, true, true, true, true, true, true, true, true, true, true, true, true, true, true, true, true, true, true, true, true, true, true, true, true, true, false, false, false, false, false, false, false, false, false, false, false] rfl rfl (any_of HT_.out (by kernel_rfl)) (fun _ _ _ h => h) (Or.inl ⟨by rfl, ?_⟩) ?_ ?_
        rotate_left
        · intro w'
          go_simp
          with_reducible rfl
        rotate_left
        · simp only [Act.put, List.setIfInBounds_toArray, List.set_cons_zero, List.set_cons_succ, i64_w, i32_w]
          rfl
        refine pure_ (i := 39) (N := some 89) (v := ?_) (a' := ?_) #[true, true, true, true, true, true, true, true, true, true, true, true, true, true, true, true, true, true, true, true, true, true, true, true, true, true, true, true, true, true, true, true, true, true, true, true, true, true, true, true, false, false, false, false, false, false, false, false, false, false] rfl rfl (any_of HT_.out (by kernel_rfl)) (fun _ _ _ h => h) (Or.inl ⟨by rfl, ?_⟩) ?_ ?_
        rotate_left
        · intro w'
          go_simp
          with_reducible rfl
        rotate_left
        · simp only [Act.put, List.setIfInBounds_toArray, List.set_cons_zero, List.set_cons_succ, i64_w, i32_w]
          rfl
        refine pure_ (i := 42) (N := some 92) (v := ?_) (a' := ?_) #[true, true, true, true, true, true, true, true, true, true, true, true, true, true, true, true, true, true, true, true, true, true, true, true, true, true, true, true, true, true, true, true, true, true, true, true, true, true, true, true, false, false, true, false, false, false, false, false, false, false] rfl rfl (any_of HT_.out (by kernel_rfl)) (fun _ _ _ h => h) (Or.inl ⟨by rfl, ?_⟩) ?_ ?_
        rotate_left
        · intro w'
          go_simp
          with_reducible rfl
        rotate_left
        · simp only [Act.put, List.setIfInBounds_toArray, List.set_cons_zero, List.set_cons_succ, i64_w, i32_w]
          rfl
        refine pure_ (i := 43) (N := some 93) (v := ?_) (a' := ?_) #[true, true, true, true, true, true, true, true, true, true, true, true, true, true, true, true, true, true, true, true, true, true, true, true, true, true, true, true, true, true, true, true, true, true, true, true, true, true, true, true, false, false, true, true, false, false, false, false, false, false] rfl rfl (any_of HT_.out (by kernel_rfl)) (fun _ _ _ h => h) (Or.inl ⟨by rfl, ?_⟩) ?_ ?_
        rotate_left
        · intro w'
          go_simp
          with_reducible rfl
        rotate_left
        · simp only [Act.put, List.setIfInBounds_toArray, List.set_cons_zero, List.set_cons_succ, i64_w, i32_w]
          rfl
        refine pure_ (i := 46) (N := some 96) (v := ?_) (a' := ?_) #[true, true, true, true, true, true, true, true, true, true, true, true, true, true, true, true, true, true, true, true, true, true, true, true, true, true, true, true, true, true, true, true, true, true, true, true, true, true, true, true, false, false, true, true, false, false, true, false, false, false] rfl rfl (any_of HT_.out (by kernel_rfl)) (fun _ _ _ h => h) (Or.inl ⟨by rfl, ?_⟩) ?_ ?_
        rotate_left
        · intro w'
          go_simp
          with_reducible rfl
        rotate_left
        · simp only [Act.put, List.setIfInBounds_toArray, List.set_cons_zero, List.set_cons_succ, i64_w, i32_w]
          rfl
        refine take_ (i := 40) (N := some 90) (v := ?_) (a' := ?_) #[true, true, true, true, true, true, true, true, true, true, true, true, true, true, true, true, true, true, true, true, true, true, true, true, true, true, true, true, true, true, true, true, true, true, true, true, true, true, true, true, true, false, true, true, false, false, true, false, false, false] rfl rfl (take_ofW HT_.out HW_.out (by kernel_rfl)) (fun _ _ _ h => h) (Or.inl ⟨by rfl, ?_⟩) hHeld ?_ ?_
        rotate_left
        · rintro w' ⟨s0, s1, s2, s3, s4, s5, s6, s7, s8⟩
          go_simp
          with_reducible rfl
        rotate_left
        · simp only [Act.put, List.setIfInBounds_toArray, List.set_cons_zero, List.set_cons_succ, i64_w, i32_w]
          rfl
        refine take_ (i := 41) (N := some 91) (v := ?_) (a' := ?_) #[true, true, true, true, true, true, true, true, true, true, true, true, true, true, true, true, true, true, true, true, true, true, true, true, true, true, true, true, true, true, true, true, true, true, true, true, true, true, true, true, true, true, true, true, false, false, true, false, false, false] rfl rfl (take_ofW HT_.out HW_.out (by kernel_rfl)) (fun _ _ _ h => h) (Or.inl ⟨by rfl, ?_⟩) hHeld ?_ ?_
        rotate_left
        · rintro w' ⟨s0, s1, s2, s3, s4, s5, s6, s7, s8⟩
          go_simp
          with_reducible rfl
        rotate_left
        · simp only [Act.put, List.setIfInBounds_toArray, List.set_cons_zero, List.set_cons_succ, i64_w, i32_w]
          rfl
        refine one_ (i := 44) (N := some 94) #[true, true, true, true, true, true, true, true, true, true, true, true, true, true, true, true, true, true, true, true, true, true, true, true, true, true, true, true, true, true, true, true, true, true, true, true, true, true, true, true, true, true, true, true, true, false, true, false, false, false] rfl rfl (one_of HT_.out (by kernel_rfl)) (by decide) (fun K hK => ?_)
        refine goes_ Try.func21 (by kernel_rfl) rfl #[.agg #[.int .i64 t, .int .i64 b, .int .i64 i, .int .i64 f, .int .i64 c], .int .i64 (Int.tmod (wrap64 p) t), .int .i64 (Int.tmod (wrap64 x) c)] (by rfl) rfl rfl (by (try simp only [List.map_toArray, List.map_cons, List.map_nil]); first | done | rfl) ?_
        with_reducible refine (layout_Op.calls k t b i f c (Int.tmod (wrap64 p) t) (Int.tmod (wrap64 x) c) v3 _ Hv3.out).mono ?_
        rintro e w9 ⟨rfl, hb⟩
        refine ⟨_, rfl, ?_⟩
        have n0_ := Aside0.mk (blk_below BK0.out hb)
        clear BK0
        have BK0 := n0_
        clear n0_
        have n1_ := Aside0.mk (blk_below BK1.out hb)
        clear BK1
        have BK1 := n1_
        clear n1_
        have n2_ := Aside0.mk (blk_below BK2.out hb)
        clear BK2
        have BK2 := n2_
        clear n2_
        have nh_ := Aside0.mk (below_step HB.out hb)
        clear HB hb
        have HB := nh_
        clear nh_
        refine hK.out _ _ ⟨(blk_cell BK0.out 0).trans rfl, (blk_cell BK0.out 1).trans rfl, (blk_cell BK0.out 2).trans rfl, (blk_cell BK0.out 3).trans rfl, (blk_cell BK0.out 4).trans rfl, (blk_cell BK1.out 0).trans rfl, (blk_cell BK1.out 1).trans rfl, (blk_cell BK2.out 0).trans rfl, (blk_cell BK2.out 1).trans rfl⟩ (fun hHeld => ?_)
        clear hK K
        refine norm_ (a' := ?_) ?_ ?_
        rotate_left
        · show Act.put _ (some 94) _ = _
          simp only [Act.put, List.setIfInBounds_toArray, List.set_cons_zero, List.set_cons_succ, i64_w, i32_w]
          rfl
        refine one_ (i := 45) (N := some 95) #[true, true, true, true, true, true, true, true, true, true, true, true, true, true, true, true, true, true, true, true, true, true, true, true, true, true, true, true, true, true, true, true, true, true, true, true, true, true, true, true, true, true, true, true, true, true, true, false, false, false] rfl rfl (one_of HT_.out (by kernel_rfl)) (by decide) (fun K hK => ?_)
        refine goes_ Try.func23 (by kernel_rfl) rfl #[.agg #[.int .i64 t, .int .i64 b, .int .i64 i, .int .i64 f, .int .i64 c], .int .i64 v3] (by rfl) rfl rfl (by (try simp only [List.map_toArray, List.map_cons, List.map_nil]); first | done | rfl) ?_
        with_reducible refine (layout_Thread.calls k t b i f c v3 (Int.tmod (wrap64 p) t) _ Hu3.out).mono ?_
        rintro e w10 ⟨rfl, hb⟩
        refine ⟨_, rfl, ?_⟩
        have n0_ := Aside0.mk (blk_below BK0.out hb)
        clear BK0
        have BK0 := n0_
        clear n0_
        have n1_ := Aside0.mk (blk_below BK1.out hb)
        clear BK1
        have BK1 := n1_
        clear n1_
        have n2_ := Aside0.mk (blk_below BK2.out hb)
        clear BK2
        have BK2 := n2_
        clear n2_
        have nh_ := Aside0.mk (below_step HB.out hb)
        clear HB hb
        have HB := nh_
        clear nh_
        refine hK.out _ _ ⟨(blk_cell BK0.out 0).trans rfl, (blk_cell BK0.out 1).trans rfl, (blk_cell BK0.out 2).trans rfl, (blk_cell BK0.out 3).trans rfl, (blk_cell BK0.out 4).trans rfl, (blk_cell BK1.out 0).trans rfl, (blk_cell BK1.out 1).trans rfl, (blk_cell BK2.out 0).trans rfl, (blk_cell BK2.out 1).trans rfl⟩ (fun hHeld => ?_)
        clear hK K
        refine norm_ (a' := ?_) ?_ ?_
        rotate_left
        · show Act.put _ (some 95) _ = _
          simp only [Act.put, List.setIfInBounds_toArray, List.set_cons_zero, List.set_cons_succ, i64_w, i32_w]
          rfl
        refine pure_ (i := 47) (N := some 97) (v := ?_) (a' := ?_) #[true, true, true, true, true, true, true, true, true, true, true, true, true, true, true, true, true, true, true, true, true, true, true, true, true, true, true, true, true, true, true, true, true, true, true, true, true, true, true, true, true, true, true, true, true, true, true, true, false, false] rfl rfl (any_of HT_.out (by kernel_rfl)) (fun _ _ _ h => h) (Or.inl ⟨by rfl, ?_⟩) ?_ ?_
        rotate_left
        · intro w'
          go_simp
          with_reducible rfl
        rotate_left
        · simp only [Act.put, List.setIfInBounds_toArray, List.set_cons_zero, List.set_cons_succ, i64_w, i32_w]
          rfl
        refine pure_ (i := 48) (N := some 98) (v := ?_) (a' := ?_) #[true, true, true, true, true, true, true, true, true, true, true, true, true, true, true, true, true, true, true, true, true, true, true, true, true, true, true, true, true, true, true, true, true, true, true, true, true, true, true, true, true, true, true, true, true, true, true, true, true, false] rfl rfl (any_of HT_.out (by kernel_rfl)) (fun _ _ _ h => h) (Or.inl ⟨by rfl, ?_⟩) ?_ ?_
        rotate_left
        · intro w'
          go_simp
          with_reducible rfl
        rotate_left
        · simp only [Act.put, List.setIfInBounds_toArray, List.set_cons_zero, List.set_cons_succ, i64_w, i32_w]
          rfl
        refine pure_ (i := 49) (N := some 6) (v := ?_) (a' := ?_) #[true, true, true, true, true, true, true, true, true, true, true, true, true, true, true, true, true, true, true, true, true, true, true, true, true, true, true, true, true, true, true, true, true, true, true, true, true, true, true, true, true, true, true, true, true, true, true, true, true, true] rfl rfl (any_of HT_.out (by kernel_rfl)) (fun _ _ _ h => h) (Or.inl ⟨by rfl, ?_⟩) ?_ ?_
        rotate_left
        · intro w'
          go_simp
          with_reducible rfl
        rotate_left
        · simp only [Act.put, List.setIfInBounds_toArray, List.set_cons_zero, List.set_cons_succ, i64_w, i32_w]
          rfl
        refine done_ (done_of HT_.out (by kernel_rfl)) ?_
        go_wp2
        go_ret
        exact ⟨rfl, HB.out⟩
      · rw [if_neg e5] at h
        have nb := beq_eq_false_iff_ne.mpr e5
        clear e5
        obtain ⟨v0, hv0, hn_⟩ := Option.bind_eq_some_iff.mp h
        clear h
        have h := hn_
        clear hn_
        have Hv0 := Aside0.mk hv0
        clear hv0
        obtain ⟨u0, hu0, hn_⟩ := Option.bind_eq_some_iff.mp h
        clear h
        have h := hn_
        clear hn_
        have Hu0 := Aside0.mk hu0
        clear hu0
        by_cases e10 : (v0 == u0) = false
        rotate_left
        · rw [if_neg e10] at h
          cases h
        rw [if_pos e10] at h
        have bae10 := e10
        clear e10
        obtain ⟨v1, hv1, hn_⟩ := Option.bind_eq_some_iff.mp h
        clear h
        have h := hn_
        clear hn_
        have Hv1 := Aside0.mk hv1
        clear hv1
        obtain ⟨u1, hu1, hn_⟩ := Option.bind_eq_some_iff.mp h
        clear h
        have h := hn_
        clear hn_
        have Hu1 := Aside0.mk hu1
        clear hu1
        by_cases e11 : (v1 == u1) = false
        rotate_left
        · rw [if_neg e11] at h
          cases h
        rw [if_pos e11] at h
        have bbe11 := e11
        clear e11
        obtain ⟨v2, hv2, hn_⟩ := Option.bind_eq_some_iff.mp h
        clear h
        have h := hn_
        clear hn_
        have Hv2 := Aside0.mk hv2
        clear hv2
        obtain ⟨u2, hu2, hn_⟩ := Option.bind_eq_some_iff.mp h
        clear h
        have h := hn_
        clear hn_
        have Hu2 := Aside0.mk hu2
        clear hu2
        by_cases e12 : u2 < v2
        rotate_left
        · rw [if_neg e12] at h
          cases h
        rw [if_pos e12] at h
        obtain ⟨v3, hv3, hn_⟩ := Option.bind_eq_some_iff.mp h
        clear h
        have h := hn_
        clear hn_
        have Hv3 := Aside0.mk hv3
        clear hv3
        obtain ⟨u3, hu3, hn_⟩ := Option.bind_eq_some_iff.mp h
        clear h
        have h := hn_
        clear hn_
        have Hu3 := Aside0.mk hu3
        clear hu3
        by_cases e13 : u3 = Int.tmod (wrap64 p) t
        rotate_left
        · rw [if_neg e13] at h
          cases h
        rw [if_pos e13] at h
        subst e13
        obtain rfl := Option.some.inj h
        clear h
        have T1 : True := trivial
        have HB0 := Aside0.mk (show Below w.heap.size w (((w.alloc (.cells #[.int .i64 t, .int .i64 b, .int .i64 i, .int .i64 f, .int .i64 c] 23)).alloc (.cells #[.int .u8 p, .int .u8 q] 32)).alloc (.cells #[.int .u16 x, .int .u16 y] 33)) from by repeat (first | exact Below.refl _ _ | apply below_alloc))
        have BK0_0 := Aside0.mk (show (((w.alloc (.cells #[.int .i64 t, .int .i64 b, .int .i64 i, .int .i64 f, .int .i64 c] 23)).alloc (.cells #[.int .u8 p, .int .u8 q] 32)).alloc (.cells #[.int .u16 x, .int .u16 y] 33)).heap[w.heap.size]? = some (.cells #[.int .i64 t, .int .i64 b, .int .i64 i, .int .i64 f, .int .i64 c] 23 (0, 0)) from (blk_alloc (blk_alloc (by simpa using blk_new w (.cells #[.int .i64 t, .int .i64 b, .int .i64 i, .int .i64 f, .int .i64 c] 23)) _) _))
        have BK1_0 := Aside0.mk (show (((w.alloc (.cells #[.int .i64 t, .int .i64 b, .int .i64 i, .int .i64 f, .int .i64 c] 23)).alloc (.cells #[.int .u8 p, .int .u8 q] 32)).alloc (.cells #[.int .u16 x, .int .u16 y] 33)).heap[(w.heap.size + 1)]? = some (.cells #[.int .u8 p, .int .u8 q] 32 (0, 0)) from (blk_alloc (by simpa using blk_new (w.alloc (.cells #[.int .i64 t, .int .i64 b, .int .i64 i, .int .i64 f, .int .i64 c] 23)) (.cells #[.int .u8 p, .int .u8 q] 32)) _))
        have BK2_0 := Aside0.mk (show (((w.alloc (.cells #[.int .i64 t, .int .i64 b, .int .i64 i, .int .i64 f, .int .i64 c] 23)).alloc (.cells #[.int .u8 p, .int .u8 q] 32)).alloc (.cells #[.int .u16 x, .int .u16 y] 33)).heap[(w.heap.size + 2)]? = some (.cells #[.int .u16 x, .int .u16 y] 33 (0, 0)) from (by simpa using blk_new ((w.alloc (.cells #[.int .i64 t, .int .i64 b, .int .i64 i, .int .i64 f, .int .i64 c] 23)).alloc (.cells #[.int .u8 p, .int .u8 q] 32)) (.cells #[.int .u16 x, .int .u16 y] 33)))
        go_enter Try.func6, Try.ntmps6
        go_wp2_with (first | (go_at_call 8; have _t := T1; clear T1 _t; (with_reducible refine (corrielaw05_awake.calls true _ rfl).mono ?_); rintro e w1 ⟨rfl, hb1⟩; have HB1 := Aside0.mk (below_step HB0.out hb1); have BK0_1 := Aside0.mk (blk_below BK0_0.out hb1); clear BK0_0; have BK1_1 := Aside0.mk (blk_below BK1_0.out hb1); clear BK1_0; have BK2_1 := Aside0.mk (blk_below BK2_0.out hb1); clear BK2_0; clear HB0; have c1_0_0 : w1.cell? ⟨w.heap.size, 0, none⟩ = some (.int .i64 t) := (blk_cell BK0_1.out 0).trans rfl; have c1_0_1 : w1.cell? ⟨w.heap.size, 1, none⟩ = some (.int .i64 b) := (blk_cell BK0_1.out 1).trans rfl; have c1_0_2 : w1.cell? ⟨w.heap.size, 2, none⟩ = some (.int .i64 i) := (blk_cell BK0_1.out 2).trans rfl; have c1_0_3 : w1.cell? ⟨w.heap.size, 3, none⟩ = some (.int .i64 f) := (blk_cell BK0_1.out 3).trans rfl; have c1_0_4 : w1.cell? ⟨w.heap.size, 4, none⟩ = some (.int .i64 c) := (blk_cell BK0_1.out 4).trans rfl; have c1_1_0 : w1.cell? ⟨(w.heap.size + 1), 0, none⟩ = some (.int .u8 p) := (blk_cell BK1_1.out 0).trans rfl; have c1_1_1 : w1.cell? ⟨(w.heap.size + 1), 1, none⟩ = some (.int .u8 q) := (blk_cell BK1_1.out 1).trans rfl; have c1_2_0 : w1.cell? ⟨(w.heap.size + 2), 0, none⟩ = some (.int .u16 x) := (blk_cell BK2_1.out 0).trans rfl; have c1_2_1 : w1.cell? ⟨(w.heap.size + 2), 1, none⟩ = some (.int .u16 y) := (blk_cell BK2_1.out 1).trans rfl; have z1_0 : w.heap.size < w1.heap.size := blk_lt BK0_1.out; have z1_1 : (w.heap.size + 1) < w1.heap.size := blk_lt BK1_1.out; have z1_2 : (w.heap.size + 2) < w1.heap.size := blk_lt BK2_1.out; clear hb1; have T2 : True := trivial) | (go_at_call 25; have _t := T2; clear T2 _t; (with_reducible refine (corrieref04_May.calls k t b i f c 0 _ Hm.out).mono ?_); rintro e w2 ⟨rfl, hb2⟩; have HB2 := Aside0.mk (below_step HB1.out hb2); have BK0_2 := Aside0.mk (blk_below BK0_1.out hb2); clear BK0_1; have BK1_2 := Aside0.mk (blk_below BK1_1.out hb2); clear BK1_1; have BK2_2 := Aside0.mk (blk_below BK2_1.out hb2); clear BK2_1; clear HB1; (try clear c1_0_0 c1_0_1 c1_0_2 c1_0_3 c1_0_4 c1_1_0 c1_1_1 c1_2_0 c1_2_1 z1_0 z1_1 z1_2); have c2_0_0 : w2.cell? ⟨w.heap.size, 0, none⟩ = some (.int .i64 t) := (blk_cell BK0_2.out 0).trans rfl; have c2_0_1 : w2.cell? ⟨w.heap.size, 1, none⟩ = some (.int .i64 b) := (blk_cell BK0_2.out 1).trans rfl; have c2_0_2 : w2.cell? ⟨w.heap.size, 2, none⟩ = some (.int .i64 i) := (blk_cell BK0_2.out 2).trans rfl; have c2_0_3 : w2.cell? ⟨w.heap.size, 3, none⟩ = some (.int .i64 f) := (blk_cell BK0_2.out 3).trans rfl; have c2_0_4 : w2.cell? ⟨w.heap.size, 4, none⟩ = some (.int .i64 c) := (blk_cell BK0_2.out 4).trans rfl; have c2_1_0 : w2.cell? ⟨(w.heap.size + 1), 0, none⟩ = some (.int .u8 p) := (blk_cell BK1_2.out 0).trans rfl; have c2_1_1 : w2.cell? ⟨(w.heap.size + 1), 1, none⟩ = some (.int .u8 q) := (blk_cell BK1_2.out 1).trans rfl; have c2_2_0 : w2.cell? ⟨(w.heap.size + 2), 0, none⟩ = some (.int .u16 x) := (blk_cell BK2_2.out 0).trans rfl; have c2_2_1 : w2.cell? ⟨(w.heap.size + 2), 1, none⟩ = some (.int .u16 y) := (blk_cell BK2_2.out 1).trans rfl; have z2_0 : w.heap.size < w2.heap.size := blk_lt BK0_2.out; have z2_1 : (w.heap.size + 1) < w2.heap.size := blk_lt BK1_2.out; have z2_2 : (w.heap.size + 2) < w2.heap.size := blk_lt BK2_2.out; clear hb2; have T3 : True := trivial))
        try clear c2_0_0 c2_0_1 c2_0_2 c2_0_3 c2_0_4 c2_1_0 c2_1_1 c2_2_0 c2_2_1 z2_0 z2_1 z2_2
        have BK0 := Aside0.mk (blk_drew BK0_2.out)
        clear BK0_2
        have BK1 := Aside0.mk (blk_drew BK1_2.out)
        clear BK1_2
        have BK2 := Aside0.mk (blk_drew BK2_2.out)
        clear BK2_2
        have HB := Aside0.mk (below_drew1 HB2.out)
        clear HB2
        refine start_ (n := 50) (S := fun w' => w'.cell? ⟨w.heap.size, 0, none⟩ = some (.int .i64 t) ∧ w'.cell? ⟨w.heap.size, 1, none⟩ = some (.int .i64 b) ∧ w'.cell? ⟨w.heap.size, 2, none⟩ = some (.int .i64 i) ∧ w'.cell? ⟨w.heap.size, 3, none⟩ = some (.int .i64 f) ∧ w'.cell? ⟨w.heap.size, 4, none⟩ = some (.int .i64 c) ∧ w'.cell? ⟨(w.heap.size + 1), 0, none⟩ = some (.int .u8 p) ∧ w'.cell? ⟨(w.heap.size + 1), 1, none⟩ = some (.int .u8 q) ∧ w'.cell? ⟨(w.heap.size + 2), 0, none⟩ = some (.int .u16 x) ∧ w'.cell? ⟨(w.heap.size + 2), 1, none⟩ = some (.int .u16 y)) (ds := []) #[false, false, false, false, false, false, false, false, false, false, false, false, false, false, false, false, false, false, false, false, false, false, false, false, false, false, false, false, false, false, false, false, false, false, false, false, false, false, false, false, false, false, false, false, false, false, false, false, false, false] (by kernel_rfl) rfl rfl ⟨(blk_cell BK0.out 0).trans rfl, (blk_cell BK0.out 1).trans rfl, (blk_cell BK0.out 2).trans rfl, (blk_cell BK0.out 3).trans rfl, (blk_cell BK0.out 4).trans rfl, (blk_cell BK1.out 0).trans rfl, (blk_cell BK1.out 1).trans rfl, (blk_cell BK2.out 0).trans rfl, (blk_cell BK2.out 1).trans rfl⟩ (fun hHeld => ?_)
        refine with_tabW corrielaw05_LayoutApart.tab9 corrielaw05_LayoutApart.bits9 (fun HT_ HW_ => ?_)
        generalize w2.drew = W9_2 at BK0 BK1 BK2 HB hHeld ⊢
        refine pure_ (i := 0) (N := some 50) (v := ?_) (a' := ?_) #[true, false, false, false, false, false, false, false, false, false, false, false, false, false, false, false, false, false, false, false, false, false, false, false, false, false, false, false, false, false, false, false, false, false, false, false, false, false, false, false, false, false, false, false, false, false, false, false, false, false] rfl rfl (any_of HT_.out (by kernel_rfl)) (fun _ _ _ h => h) (Or.inl ⟨by rfl, ?_⟩) ?_ ?_
        rotate_left
        · intro w'
          go_simp
          with_reducible rfl
        rotate_left
        · simp only [Act.put, List.setIfInBounds_toArray, List.set_cons_zero, List.set_cons_succ, i64_w, i32_w]
          rfl
        refine pure_ (i := 1) (N := some 51) (v := ?_) (a' := ?_) #[true, true, false, false, false, false, false, false, false, false, false, false, false, false, false, false, false, false, false, false, false, false, false, false, false, false, false, false, false, false, false, false, false, false, false, false, false, false, false, false, false, false, false, false, false, false, false, false, false, false] rfl rfl (any_of HT_.out (by kernel_rfl)) (fun _ _ _ h => h) (Or.inl ⟨by rfl, ?_⟩) ?_ ?_
        rotate_left
        · intro w'
          go_simp
          with_reducible rfl
        rotate_left
        · simp only [Act.put, List.setIfInBounds_toArray, List.set_cons_zero, List.set_cons_succ, i64_w, i32_w]
          rfl
        refine pure_ (i := 3) (N := some 53) (v := ?_) (a' := ?_) #[true, true, false, true, false, false, false, false, false, false, false, false, false, false, false, false, false, false, false, false, false, false, false, false, false, false, false, false, false, false, false, false, false, false, false, false, false, false, false, false, false, false, false, false, false, false, false, false, false, false] rfl rfl (any_of HT_.out (by kernel_rfl)) (fun _ _ _ h => h) (Or.inl ⟨by rfl, ?_⟩) ?_ ?_
        rotate_left
        · intro w'
          go_simp
          with_reducible rfl
        rotate_left
        · simp only [Act.put, List.setIfInBounds_toArray, List.set_cons_zero, List.set_cons_succ, i64_w, i32_w]
          rfl
        refine pure_ (i := 4) (N := some 54) (v := ?_) (a' := ?_) #[true, true, false, true, true, false, false, false, false, false, false, false, false, false, false, false, false, false, false, false, false, false, false, false, false, false, false, false, false, false, false, false, false, false, false, false, false, false, false, false, false, false, false, false, false, false, false, false, false, false] rfl rfl (any_of HT_.out (by kernel_rfl)) (fun _ _ _ h => h) (Or.inl ⟨by rfl, ?_⟩) ?_ ?_
        rotate_left
        · intro w'
          go_simp
          with_reducible rfl
        rotate_left
        · simp only [Act.put, List.setIfInBounds_toArray, List.set_cons_zero, List.set_cons_succ, i64_w, i32_w]
          rfl
        refine pure_ (i := 7) (N := some 57) (v := ?_) (a' := ?_) #[true, true, false, true, true, false, false, true, false, false, false, false, false, false, false, false, false, false, false, false, false, false, false, false, false, false, false, false, false, false, false, false, false, false, false, false, false, false, false, false, false, false, false, false, false, false, false, false, false, false] rfl rfl (any_of HT_.out (by kernel_rfl)) (fun _ _ _ h => h) (Or.inl ⟨by rfl, ?_⟩) ?_ ?_
        rotate_left
        · intro w'
          go_simp
          with_reducible rfl
        rotate_left
        · simp only [Act.put, List.setIfInBounds_toArray, List.set_cons_zero, List.set_cons_succ, i64_w, i32_w]
          rfl
        refine pure_ (i := 8) (N := some 58) (v := ?_) (a' := ?_) #[true, true, false, true, true, false, false, true, true, false, false, false, false, false, false, false, false, false, false, false, false, false, false, false, false, false, false, false, false, false, false, false, false, false, false, false, false, false, false, false, false, false, false, false, false, false, false, false, false, false] rfl rfl (any_of HT_.out (by kernel_rfl)) (fun _ _ _ h => h) (Or.inl ⟨by rfl, ?_⟩) ?_ ?_
        rotate_left
        · intro w'
          go_simp
          with_reducible rfl
        rotate_left
        · simp only [Act.put, List.setIfInBounds_toArray, List.set_cons_zero, List.set_cons_succ, i64_w, i32_w]
          rfl
        refine pure_ (i := 11) (N := some 61) (v := ?_) (a' := ?_) #[true, true, false, true, true, false, false, true, true, false, false, true, false, false, false, false, false, false, false, false, false, false, false, false, false, false, false, false, false, false, false, false, false, false, false, false, false, false, false, false, false, false, false, false, false, false, false, false, false, false] rfl rfl (any_of HT_.out (by kernel_rfl)) (fun _ _ _ h => h) (Or.inl ⟨by rfl, ?_⟩) ?_ ?_
        rotate_left
        · intro w'
          go_simp
          with_reducible rfl
        rotate_left
        · simp only [Act.put, List.setIfInBounds_toArray, List.set_cons_zero, List.set_cons_succ, i64_w, i32_w]
          rfl
        refine take_ (i := 2) (N := some 52) (v := ?_) (a' := ?_) #[true, true, true, true, true, false, false, true, true, false, false, true, false, false, false, false, false, false, false, false, false, false, false, false, false, false, false, false, false, false, false, false, false, false, false, false, false, false, false, false, false, false, false, false, false, false, false, false, false, false] rfl rfl (take_ofW HT_.out HW_.out (by kernel_rfl)) (fun _ _ _ h => h) (Or.inl ⟨by rfl, ?_⟩) hHeld ?_ ?_
        rotate_left
        · rintro w' ⟨s0, s1, s2, s3, s4, s5, s6, s7, s8⟩
          go_simp
          with_reducible rfl
        rotate_left
        · simp only [Act.put, List.setIfInBounds_toArray, List.set_cons_zero, List.set_cons_succ, i64_w, i32_w]
          rfl
        refine take_ (i := 6) (N := some 56) (v := ?_) (a' := ?_) #[true, true, true, true, true, false, true, true, true, false, false, true, false, false, false, false, false, false, false, false, false, false, false, false, false, false, false, false, false, false, false, false, false, false, false, false, false, false, false, false, false, false, false, false, false, false, false, false, false, false] rfl rfl (take_ofW HT_.out HW_.out (by kernel_rfl)) (fun _ _ _ h => h) (Or.inl ⟨by rfl, ?_⟩) hHeld ?_ ?_
        rotate_left
        · rintro w' ⟨s0, s1, s2, s3, s4, s5, s6, s7, s8⟩
          go_simp
          with_reducible rfl
        rotate_left
        · simp only [Act.put, List.setIfInBounds_toArray, List.set_cons_zero, List.set_cons_succ, i64_w, i32_w]
          rfl
        refine one_ (i := 5) (N := some 55) #[true, true, true, true, true, true, true, true, true, false, false, true, false, false, false, false, false, false, false, false, false, false, false, false, false, false, false, false, false, false, false, false, false, false, false, false, false, false, false, false, false, false, false, false, false, false, false, false, false, false] rfl rfl (one_of HT_.out (by kernel_rfl)) (by decide) (fun K hK => ?_)
        refine goes_ Try.func19 (by kernel_rfl) rfl #[.agg #[.int .i64 t, .int .i64 b, .int .i64 i, .int .i64 f, .int .i64 c], .int .i64 (Int.tmod (wrap64 p) t), .int .i64 (Int.tmod (wrap64 x) c)] (by rfl) rfl rfl (by (try simp only [List.map_toArray, List.map_cons, List.map_nil]); first | done | rfl) ?_
        with_reducible refine (layout_Node.calls k t b i f c (Int.tmod (wrap64 p) t) (Int.tmod (wrap64 x) c) v0 _ Hv0.out).mono ?_
        rintro e w3 ⟨rfl, hb⟩
        refine ⟨_, rfl, ?_⟩
        have n0_ := Aside0.mk (blk_below BK0.out hb)
        clear BK0
        have BK0 := n0_
        clear n0_
        have n1_ := Aside0.mk (blk_below BK1.out hb)
        clear BK1
        have BK1 := n1_
        clear n1_
        have n2_ := Aside0.mk (blk_below BK2.out hb)
        clear BK2
        have BK2 := n2_
        clear n2_
        have nh_ := Aside0.mk (below_step HB.out hb)
        clear HB hb
        have HB := nh_
        clear nh_
        refine hK.out _ _ ⟨(blk_cell BK0.out 0).trans rfl, (blk_cell BK0.out 1).trans rfl, (blk_cell BK0.out 2).trans rfl, (blk_cell BK0.out 3).trans rfl, (blk_cell BK0.out 4).trans rfl, (blk_cell BK1.out 0).trans rfl, (blk_cell BK1.out 1).trans rfl, (blk_cell BK2.out 0).trans rfl, (blk_cell BK2.out 1).trans rfl⟩ (fun hHeld => ?_)
        clear hK K
        refine norm_ (a' := ?_) ?_ ?_
        rotate_left
        · show Act.put _ (some 55) _ = _
          simp only [Act.put, List.setIfInBounds_toArray, List.set_cons_zero, List.set_cons_succ, i64_w, i32_w]
          rfl
        refine one_ (i := 9) (N := some 59) #[true, true, true, true, true, true, true, true, true, true, false, true, false, false, false, false, false, false, false, false, false, false, false, false, false, false, false, false, false, false, false, false, false, false, false, false, false, false, false, false, false, false, false, false, false, false, false, false, false, false] rfl rfl (one_of HT_.out (by kernel_rfl)) (by decide) (fun K hK => ?_)
        refine goes_ Try.func19 (by kernel_rfl) rfl #[.agg #[.int .i64 t, .int .i64 b, .int .i64 i, .int .i64 f, .int .i64 c], .int .i64 (Int.tmod (wrap64 q) t), .int .i64 (Int.tmod (wrap64 y) c)] (by rfl) rfl rfl (by (try simp only [List.map_toArray, List.map_cons, List.map_nil]); first | done | rfl) ?_
        with_reducible refine (layout_Node.calls k t b i f c (Int.tmod (wrap64 q) t) (Int.tmod (wrap64 y) c) u0 _ Hu0.out).mono ?_
        rintro e w4 ⟨rfl, hb⟩
        refine ⟨_, rfl, ?_⟩
        have n0_ := Aside0.mk (blk_below BK0.out hb)
        clear BK0
        have BK0 := n0_
        clear n0_
        have n1_ := Aside0.mk (blk_below BK1.out hb)
        clear BK1
        have BK1 := n1_
        clear n1_
        have n2_ := Aside0.mk (blk_below BK2.out hb)
        clear BK2
        have BK2 := n2_
        clear n2_
        have nh_ := Aside0.mk (below_step HB.out hb)
        clear HB hb
        have HB := nh_
        clear nh_
        refine hK.out _ _ ⟨(blk_cell BK0.out 0).trans rfl, (blk_cell BK0.out 1).trans rfl, (blk_cell BK0.out 2).trans rfl, (blk_cell BK0.out 3).trans rfl, (blk_cell BK0.out 4).trans rfl, (blk_cell BK1.out 0).trans rfl, (blk_cell BK1.out 1).trans rfl, (blk_cell BK2.out 0).trans rfl, (blk_cell BK2.out 1).trans rfl⟩ (fun hHeld => ?_)
        clear hK K
        refine norm_ (a' := ?_) ?_ ?_
        rotate_left
        · show Act.put _ (some 59) _ = _
          simp only [Act.put, List.setIfInBounds_toArray, List.set_cons_zero, List.set_cons_succ, i64_w, i32_w]
          rfl
        refine pure_ (i := 10) (N := some 60) (v := ?_) (a' := ?_) #[true, true, true, true, true, true, true, true, true, true, true, true, false, false, false, false, false, false, false, false, false, false, false, false, false, false, false, false, false, false, false, false, false, false, false, false, false, false, false, false, false, false, false, false, false, false, false, false, false, false] rfl rfl (any_of HT_.out (by kernel_rfl)) (fun _ _ _ h => h) (Or.inl ⟨by rfl, ?_⟩) ?_ ?_
        rotate_left
        · intro w'
          go_simp
          with_reducible rfl
        rotate_left
        · simp only [Act.put, List.setIfInBounds_toArray, List.set_cons_zero, List.set_cons_succ, i64_w, i32_w]
          rfl
        refine pure_ (i := 12) (N := some 62) (v := ?_) (a' := ?_) #[true, true, true, true, true, true, true, true, true, true, true, true, true, false, false, false, false, false, false, false, false, false, false, false, false, false, false, false, false, false, false, false, false, false, false, false, false, false, false, false, false, false, false, false, false, false, false, false, false, false] rfl rfl (any_of HT_.out (by kernel_rfl)) (fun _ _ _ h => h) (Or.inl ⟨by rfl, ?_⟩) ?_ ?_
        rotate_left
        · intro w'
          go_simp
          with_reducible rfl
        rotate_left
        · simp only [Act.put, List.setIfInBounds_toArray, List.set_cons_zero, List.set_cons_succ, i64_w, i32_w]
          rfl
        refine pure_ (i := 13) (N := some 63) (v := ?_) (a' := ?_) #[true, true, true, true, true, true, true, true, true, true, true, true, true, true, false, false, false, false, false, false, false, false, false, false, false, false, false, false, false, false, false, false, false, false, false, false, false, false, false, false, false, false, false, false, false, false, false, false, false, false] rfl rfl (any_of HT_.out (by kernel_rfl)) (fun _ _ _ h => h) (Or.inl ⟨by rfl, ?_⟩) ?_ ?_
        rotate_left
        · intro w'
          go_simp
          with_reducible rfl
        rotate_left
        · simp only [Act.put, List.setIfInBounds_toArray, List.set_cons_zero, List.set_cons_succ, i64_w, i32_w]
          rfl
        refine pure_ (i := 14) (N := some 64) (v := ?_) (a' := ?_) #[true, true, true, true, true, true, true, true, true, true, true, true, true, true, true, false, false, false, false, false, false, false, false, false, false, false, false, false, false, false, false, false, false, false, false, false, false, false, false, false, false, false, false, false, false, false, false, false, false, false] rfl rfl (any_of HT_.out (by kernel_rfl)) (fun _ _ _ h => h) (Or.inl ⟨by rfl, ?_⟩) ?_ ?_
        rotate_left
        · intro w'
          go_simp
          with_reducible rfl
        rotate_left
        · simp only [Act.put, List.setIfInBounds_toArray, List.set_cons_zero, List.set_cons_succ, i64_w, i32_w]
          rfl
        refine pure_ (i := 16) (N := some 66) (v := ?_) (a' := ?_) #[true, true, true, true, true, true, true, true, true, true, true, true, true, true, true, false, true, false, false, false, false, false, false, false, false, false, false, false, false, false, false, false, false, false, false, false, false, false, false, false, false, false, false, false, false, false, false, false, false, false] rfl rfl (any_of HT_.out (by kernel_rfl)) (fun _ _ _ h => h) (Or.inl ⟨by rfl, ?_⟩) ?_ ?_
        rotate_left
        · intro w'
          go_simp
          with_reducible rfl
        rotate_left
        · simp only [Act.put, List.setIfInBounds_toArray, List.set_cons_zero, List.set_cons_succ, i64_w, i32_w]
          rfl
        refine pure_ (i := 17) (N := some 67) (v := ?_) (a' := ?_) #[true, true, true, true, true, true, true, true, true, true, true, true, true, true, true, false, true, true, false, false, false, false, false, false, false, false, false, false, false, false, false, false, false, false, false, false, false, false, false, false, false, false, false, false, false, false, false, false, false, false] rfl rfl (any_of HT_.out (by kernel_rfl)) (fun _ _ _ h => h) (Or.inl ⟨by rfl, ?_⟩) ?_ ?_
        rotate_left
        · intro w'
          go_simp
          with_reducible rfl
        rotate_left
        · simp only [Act.put, List.setIfInBounds_toArray, List.set_cons_zero, List.set_cons_succ, i64_w, i32_w]
          rfl
        refine pure_ (i := 20) (N := some 70) (v := ?_) (a' := ?_) #[true, true, true, true, true, true, true, true, true, true, true, true, true, true, true, false, true, true, false, false, true, false, false, false, false, false, false, false, false, false, false, false, false, false, false, false, false, false, false, false, false, false, false, false, false, false, false, false, false, false] rfl rfl (any_of HT_.out (by kernel_rfl)) (fun _ _ _ h => h) (Or.inl ⟨by rfl, ?_⟩) ?_ ?_
        rotate_left
        · intro w'
          go_simp
          with_reducible rfl
        rotate_left
        · simp only [Act.put, List.setIfInBounds_toArray, List.set_cons_zero, List.set_cons_succ, i64_w, i32_w]
          rfl
        refine pure_ (i := 21) (N := some 71) (v := ?_) (a' := ?_) #[true, true, true, true, true, true, true, true, true, true, true, true, true, true, true, false, true, true, false, false, true, true, false, false, false, false, false, false, false, false, false, false, false, false, false, false, false, false, false, false, false, false, false, false, false, false, false, false, false, false] rfl rfl (any_of HT_.out (by kernel_rfl)) (fun _ _ _ h => h) (Or.inl ⟨by rfl, ?_⟩) ?_ ?_
        rotate_left
        · intro w'
          go_simp
          with_reducible rfl
        rotate_left
        · simp only [Act.put, List.setIfInBounds_toArray, List.set_cons_zero, List.set_cons_succ, i64_w, i32_w]
          rfl
        refine pure_ (i := 24) (N := some 74) (v := ?_) (a' := ?_) #[true, true, true, true, true, true, true, true, true, true, true, true, true, true, true, false, true, true, false, false, true, true, false, false, true, false, false, false, false, false, false, false, false, false, false, false, false, false, false, false, false, false, false, false, false, false, false, false, false, false] rfl rfl (any_of HT_.out (by kernel_rfl)) (fun _ _ _ h => h) (Or.inl ⟨by rfl, ?_⟩) ?_ ?_
        rotate_left
        · intro w'
          go_simp
          with_reducible rfl
        rotate_left
        · simp only [Act.put, List.setIfInBounds_toArray, List.set_cons_zero, List.set_cons_succ, i64_w, i32_w]
          rfl
        refine take_ (i := 15) (N := some 65) (v := ?_) (a' := ?_) #[true, true, true, true, true, true, true, true, true, true, true, true, true, true, true, true, true, true, false, false, true, true, false, false, true, false, false, false, false, false, false, false, false, false, false, false, false, false, false, false, false, false, false, false, false, false, false, false, false, false] rfl rfl (take_ofW HT_.out HW_.out (by kernel_rfl)) (fun _ _ _ h => h) (Or.inl ⟨by rfl, ?_⟩) hHeld ?_ ?_
        rotate_left
        · rintro w' ⟨s0, s1, s2, s3, s4, s5, s6, s7, s8⟩
          go_simp
          with_reducible rfl
        rotate_left
        · simp only [Act.put, List.setIfInBounds_toArray, List.set_cons_zero, List.set_cons_succ, i64_w, i32_w]
          rfl
        refine take_ (i := 19) (N := some 69) (v := ?_) (a' := ?_) #[true, true, true, true, true, true, true, true, true, true, true, true, true, true, true, true, true, true, false, true, true, true, false, false, true, false, false, false, false, false, false, false, false, false, false, false, false, false, false, false, false, false, false, false, false, false, false, false, false, false] rfl rfl (take_ofW HT_.out HW_.out (by kernel_rfl)) (fun _ _ _ h => h) (Or.inl ⟨by rfl, ?_⟩) hHeld ?_ ?_
        rotate_left
        · rintro w' ⟨s0, s1, s2, s3, s4, s5, s6, s7, s8⟩
          go_simp
          with_reducible rfl
        rotate_left
        · simp only [Act.put, List.setIfInBounds_toArray, List.set_cons_zero, List.set_cons_succ, i64_w, i32_w]
          rfl
        refine one_ (i := 18) (N := some 68) #[true, true, true, true, true, true, true, true, true, true, true, true, true, true, true, true, true, true, true, true, true, true, false, false, true, false, false, false, false, false, false, false, false, false, false, false, false, false, false, false, false, false, false, false, false, false, false, false, false, false] rfl rfl (one_of HT_.out (by kernel_rfl)) (by decide) (fun K hK => ?_)
        refine goes_ Try.func21 (by kernel_rfl) rfl #[.agg #[.int .i64 t, .int .i64 b, .int .i64 i, .int .i64 f, .int .i64 c], .int .i64 (Int.tmod (wrap64 p) t), .int .i64 (Int.tmod (wrap64 x) c)] (by rfl) rfl rfl (by (try simp only [List.map_toArray, List.map_cons, List.map_nil]); first | done | rfl) ?_
        with_reducible refine (layout_Op.calls k t b i f c (Int.tmod (wrap64 p) t) (Int.tmod (wrap64 x) c) v1 _ Hv1.out).mono ?_
        rintro e w5 ⟨rfl, hb⟩
        refine ⟨_, rfl, ?_⟩
        have n0_ := Aside0.mk (blk_below BK0.out hb)
        clear BK0
        have BK0 := n0_
        clear n0_
        have n1_ := Aside0.mk (blk_below BK1.out hb)
        clear BK1
        have BK1 := n1_
        clear n1_
        have n2_ := Aside0.mk (blk_below BK2.out hb)
        clear BK2
        have BK2 := n2_
        clear n2_
        have nh_ := Aside0.mk (below_step HB.out hb)
        clear HB hb
        have HB := nh_
        clear nh_
        refine hK.out _ _ ⟨(blk_cell BK0.out 0).trans rfl, (blk_cell BK0.out 1).trans rfl, (blk_cell BK0.out 2).trans rfl, (blk_cell BK0.out 3).trans rfl, (blk_cell BK0.out 4).trans rfl, (blk_cell BK1.out 0).trans rfl, (blk_cell BK1.out 1).trans rfl, (blk_cell BK2.out 0).trans rfl, (blk_cell BK2.out 1).trans rfl⟩ (fun hHeld => ?_)
        clear hK K
        refine norm_ (a' := ?_) ?_ ?_
        rotate_left
        · show Act.put _ (some 68) _ = _
          simp only [Act.put, List.setIfInBounds_toArray, List.set_cons_zero, List.set_cons_succ, i64_w, i32_w]
          rfl
        refine one_ (i := 22) (N := some 72) #[true, true, true, true, true, true, true, true, true, true, true, true, true, true, true, true, true, true, true, true, true, true, true, false, true, false, false, false, false, false, false, false, false, false, false, false, false, false, false, false, false, false, false, false, false, false, false, false, false, false] rfl rfl (one_of HT_.out (by kernel_rfl)) (by decide) (fun K hK => ?_)
        refine goes_ Try.func21 (by kernel_rfl) rfl #[.agg #[.int .i64 t, .int .i64 b, .int .i64 i, .int .i64 f, .int .i64 c], .int .i64 (Int.tmod (wrap64 q) t), .int .i64 (Int.tmod (wrap64 y) c)] (by rfl) rfl rfl (by (try simp only [List.map_toArray, List.map_cons, List.map_nil]); first | done | rfl) ?_
        with_reducible refine (layout_Op.calls k t b i f c (Int.tmod (wrap64 q) t) (Int.tmod (wrap64 y) c) u1 _ Hu1.out).mono ?_
        rintro e w6 ⟨rfl, hb⟩
        refine ⟨_, rfl, ?_⟩
        have n0_ := Aside0.mk (blk_below BK0.out hb)
        clear BK0
        have BK0 := n0_
        clear n0_
        have n1_ := Aside0.mk (blk_below BK1.out hb)
        clear BK1
        have BK1 := n1_
        clear n1_
        have n2_ := Aside0.mk (blk_below BK2.out hb)
        clear BK2
        have BK2 := n2_
        clear n2_
        have nh_ := Aside0.mk (below_step HB.out hb)
        clear HB hb
        have HB := nh_
        clear nh_
        refine hK.out _ _ ⟨(blk_cell BK0.out 0).trans rfl, (blk_cell BK0.out 1).trans rfl, (blk_cell BK0.out 2).trans rfl, (blk_cell BK0.out 3).trans rfl, (blk_cell BK0.out 4).trans rfl, (blk_cell BK1.out 0).trans rfl, (blk_cell BK1.out 1).trans rfl, (blk_cell BK2.out 0).trans rfl, (blk_cell BK2.out 1).trans rfl⟩ (fun hHeld => ?_)
        clear hK K
        refine norm_ (a' := ?_) ?_ ?_
        rotate_left
        · show Act.put _ (some 72) _ = _
          simp only [Act.put, List.setIfInBounds_toArray, List.set_cons_zero, List.set_cons_succ, i64_w, i32_w]
          rfl
        refine pure_ (i := 23) (N := some 73) (v := ?_) (a' := ?_) #[true, true, true, true, true, true, true, true, true, true, true, true, true, true, true, true, true, true, true, true, true, true, true, true, true, false, false, false, false, false, false, false, false, false, false, false, false, false, false, false, false, false, false, false, false, false, false, false, false, false] rfl rfl (any_of HT_.out (by kernel_rfl)) (fun _ _ _ h => h) (Or.inl ⟨by rfl, ?_⟩) ?_ ?_
        rotate_left
        · intro w'
          go_simp
          with_reducible rfl
        rotate_left
        · simp only [Act.put, List.setIfInBounds_toArray, List.set_cons_zero, List.set_cons_succ, i64_w, i32_w]
          rfl
        refine pure_ (i := 25) (N := some 75) (v := ?_) (a' := ?_) #[true, true, true, true, true, true, true, true, true, true, true, true, true, true, true, true, true, true, true, true, true, true, true, true, true, true, false, false, false, false, false, false, false, false, false, false, false, false, false, false, false, false, false, false, false, false, false, false, false, false] rfl rfl (any_of HT_.out (by kernel_rfl)) (fun _ _ _ h => h) (Or.inl ⟨by rfl, ?_⟩) ?_ ?_
        rotate_left
        · intro w'
          go_simp
          with_reducible rfl
        rotate_left
        · simp only [Act.put, List.setIfInBounds_toArray, List.set_cons_zero, List.set_cons_succ, i64_w, i32_w]
          rfl
        refine pure_ (i := 26) (N := some 76) (v := ?_) (a' := ?_) #[true, true, true, true, true, true, true, true, true, true, true, true, true, true, true, true, true, true, true, true, true, true, true, true, true, true, true, false, false, false, false, false, false, false, false, false, false, false, false, false, false, false, false, false, false, false, false, false, false, false] rfl rfl (any_of HT_.out (by kernel_rfl)) (fun _ _ _ h => h) (Or.inl ⟨by rfl, ?_⟩) ?_ ?_
        rotate_left
        · intro w'
          go_simp
          with_reducible rfl
        rotate_left
        · simp only [Act.put, List.setIfInBounds_toArray, List.set_cons_zero, List.set_cons_succ, i64_w, i32_w]
          rfl
        refine pure_ (i := 27) (N := some 77) (v := ?_) (a' := ?_) #[true, true, true, true, true, true, true, true, true, true, true, true, true, true, true, true, true, true, true, true, true, true, true, true, true, true, true, true, false, false, false, false, false, false, false, false, false, false, false, false, false, false, false, false, false, false, false, false, false, false] rfl rfl (any_of HT_.out (by kernel_rfl)) (fun _ _ _ h => h) (Or.inl ⟨by rfl, ?_⟩) ?_ ?_
        rotate_left
        · intro w'
          go_simp
          with_reducible rfl
        rotate_left
        · simp only [Act.put, List.setIfInBounds_toArray, List.set_cons_zero, List.set_cons_succ, i64_w, i32_w]
          rfl
        refine pure_ (i := 29) (N := some 79) (v := ?_) (a' := ?_) #[true, true, true, true, true, true, true, true, true, true, true, true, true, true, true, true, true, true, true, true, true, true, true, true, true, true, true, true, false, true, false, false, false, false, false, false, false, false, false, false, false, false, false, false, false, false, false, false, false, false] rfl rfl (any_of HT_.out (by kernel_rfl)) (fun _ _ _ h => h) (Or.inl ⟨by rfl, ?_⟩) ?_ ?_
        rotate_left
        · intro w'
          go_simp
          with_reducible rfl
        rotate_left
        · simp only [Act.put, List.setIfInBounds_toArray, List.set_cons_zero, List.set_cons_succ, i64_w, i32_w]
          rfl
        refine pure_ (i := 30) (N := some 80) (v := ?_) (a' := ?_) #[true, true, true, true, true, true, true, true, true, true, true, true, true, true, true, true, true, true, true, true, true, true, true, true, true, true, true, true, false, true, true, false, false, false, false, false, false, false, false, false, false, false, false, false, false, false, false, false, false, false] rfl rfl (any_of HT_.out (by kernel_rfl)) (fun _ _ _ h => h) (Or.inl ⟨by rfl, ?_⟩) ?_ ?_
        rotate_left
        · intro w'
          go_simp
          with_reducible rfl
        rotate_left
        · simp only [Act.put, List.setIfInBounds_toArray, List.set_cons_zero, List.set_cons_succ, i64_w, i32_w]
          rfl
        refine pure_ (i := 33) (N := some 83) (v := ?_) (a' := ?_) #[true, true, true, true, true, true, true, true, true, true, true, true, true, true, true, true, true, true, true, true, true, true, true, true, true, true, true, true, false, true, true, false, false, true, false, false, false, false, false, false, false, false, false, false, false, false, false, false, false, false] rfl rfl (any_of HT_.out (by kernel_rfl)) (fun _ _ _ h => h) (Or.inl ⟨by rfl, ?_⟩) ?_ ?_
        rotate_left
        · intro w'
          go_simp
          with_reducible rfl
        rotate_left
        · simp only [Act.put, List.setIfInBounds_toArray, List.set_cons_zero, List.set_cons_succ, i64_w, i32_w]
          rfl
        refine take_ (i := 28) (N := some 78) (v := ?_) (a' := ?_) #[true, true, true, true, true, true, true, true, true, true, true, true, true, true, true, true, true, true, true, true, true, true, true, true, true, true, true, true, true, true, true, false, false, true, false, false, false, false, false, false, false, false, false, false, false, false, false, false, false, false] rfl rfl (take_ofW HT_.out HW_.out (by kernel_rfl)) (fun _ _ _ h => h) (Or.inl ⟨by rfl, ?_⟩) hHeld ?_ ?_
        rotate_left
        · rintro w' ⟨s0, s1, s2, s3, s4, s5, s6, s7, s8⟩
          go_simp
          with_reducible rfl
        rotate_left
        · simp only [Act.put, List.setIfInBounds_toArray, List.set_cons_zero, List.set_cons_succ, i64_w, i32_w]
          rfl
        refine take_ (i := 32) (N := some 82) (v := ?_) (a' := ?_) #[true, true, true, true, true, true, true, true, true, true, true, true, true, true, true, true, true, true, true, true, true, true, true, true, true, true, true, true, true, true, true, false, true, true, false, false, false, false, false, false, false, false, false, false, false, false, false, false, false, false] rfl rfl (take_ofW HT_.out HW_.out (by kernel_rfl)) (fun _ _ _ h => h) (Or.inl ⟨by rfl, ?_⟩) hHeld ?_ ?_
        rotate_left
        · rintro w' ⟨s0, s1, s2, s3, s4, s5, s6, s7, s8⟩
          go_simp
          with_reducible rfl
        rotate_left
        · simp only [Act.put, List.setIfInBounds_toArray, List.set_cons_zero, List.set_cons_succ, i64_w, i32_w]
          rfl
        refine take_ (i := 34) (N := some 84) (v := ?_) (a' := ?_) #[true, true, true, true, true, true, true, true, true, true, true, true, true, true, true, true, true, true, true, true, true, true, true, true, true, true, true, true, true, true, true, false, true, true, true, false, false, false, false, false, false, false, false, false, false, false, false, false, false, false] rfl rfl (take_ofW HT_.out HW_.out (by kernel_rfl)) (fun _ _ _ h => h) (Or.inl ⟨by rfl, ?_⟩) hHeld ?_ ?_
        rotate_left
        · rintro w' ⟨s0, s1, s2, s3, s4, s5, s6, s7, s8⟩
          go_simp
          with_reducible rfl
        rotate_left
        · simp only [Act.put, List.setIfInBounds_toArray, List.set_cons_zero, List.set_cons_succ, i64_w, i32_w]
          rfl
        refine pure_ (i := 35) (N := some 85) (v := ?_) (a' := ?_) #[true, true, true, true, true, true, true, true, true, true, true, true, true, true, true, true, true, true, true, true, true, true, true, true, true, true, true, true, true, true, true, false, true, true, true, true, false, false, false, false, false, false, false, false, false, false, false, false, false, false] rfl rfl (any_of HT_.out (by kernel_rfl)) (fun _ _ _ h => h) (Or.inl ⟨by rfl, ?_⟩) ?_ ?_
        rotate_left
        · intro w'
          go_simp
          with_reducible rfl
        rotate_left
        · simp only [Act.put, List.setIfInBounds_toArray, List.set_cons_zero, List.set_cons_succ, i64_w, i32_w]
          rfl
        refine one_ (i := 31) (N := some 81) #[true, true, true, true, true, true, true, true, true, true, true, true, true, true, true, true, true, true, true, true, true, true, true, true, true, true, true, true, true, true, true, true, true, true, true, true, false, false, false, false, false, false, false, false, false, false, false, false, false, false] rfl rfl (one_of HT_.out (by kernel_rfl)) (by decide) (fun K hK => ?_)
        refine goes_ Try.func19 (by kernel_rfl) rfl #[.agg #[.int .i64 t, .int .i64 b, .int .i64 i, .int .i64 f, .int .i64 c], .int .i64 (Int.tmod (wrap64 p) t), .int .i64 (Int.tmod (wrap64 x) c)] (by rfl) rfl rfl (by (try simp only [List.map_toArray, List.map_cons, List.map_nil]); first | done | rfl) ?_
        with_reducible refine (layout_Node.calls k t b i f c (Int.tmod (wrap64 p) t) (Int.tmod (wrap64 x) c) v2 _ Hv2.out).mono ?_
        rintro e w7 ⟨rfl, hb⟩
        refine ⟨_, rfl, ?_⟩
        have n0_ := Aside0.mk (blk_below BK0.out hb)
        clear BK0
        have BK0 := n0_
        clear n0_
        have n1_ := Aside0.mk (blk_below BK1.out hb)
        clear BK1
        have BK1 := n1_
        clear n1_
        have n2_ := Aside0.mk (blk_below BK2.out hb)
        clear BK2
        have BK2 := n2_
        clear n2_
        have nh_ := Aside0.mk (below_step HB.out hb)
        clear HB hb
        have HB := nh_
        clear nh_
        refine hK.out _ _ ⟨(blk_cell BK0.out 0).trans rfl, (blk_cell BK0.out 1).trans rfl, (blk_cell BK0.out 2).trans rfl, (blk_cell BK0.out 3).trans rfl, (blk_cell BK0.out 4).trans rfl, (blk_cell BK1.out 0).trans rfl, (blk_cell BK1.out 1).trans rfl, (blk_cell BK2.out 0).trans rfl, (blk_cell BK2.out 1).trans rfl⟩ (fun hHeld => ?_)
        clear hK K
        refine norm_ (a' := ?_) ?_ ?_
        rotate_left
        · show Act.put _ (some 81) _ = _
          simp only [Act.put, List.setIfInBounds_toArray, List.set_cons_zero, List.set_cons_succ, i64_w, i32_w]
          rfl
        refine one_ (i := 36) (N := some 86) #[true, true, true, true, true, true, true, true, true, true, true, true, true, true, true, true, true, true, true, true, true, true, true, true, true, true, true, true, true, true, true, true, true, true, true, true, true, false, false, false, false, false, false, false, false, false, false, false, false, false] rfl rfl (one_of HT_.out (by kernel_rfl)) (by decide) (fun K hK => ?_)
        refine goes_ Try.func17 (by kernel_rfl) rfl #[.agg #[.int .i64 t, .int .i64 b, .int .i64 i, .int .i64 f, .int .i64 c], .int .i64 (wrap64 (b - 1))] (by rfl) rfl rfl (by (try simp only [List.map_toArray, List.map_cons, List.map_nil]); first | done | rfl) ?_
        with_reducible refine (layout_Head.calls k t b i f c (wrap64 (b - 1)) u2 _ Hu2.out).mono ?_
        rintro e w8 ⟨rfl, hb⟩
        refine ⟨_, rfl, ?_⟩
        have n0_ := Aside0.mk (blk_below BK0.out hb)
        clear BK0
        have BK0 := n0_
        clear n0_
        have n1_ := Aside0.mk (blk_below BK1.out hb)
        clear BK1
        have BK1 := n1_
        clear n1_
        have n2_ := Aside0.mk (blk_below BK2.out hb)
        clear BK2
        have BK2 := n2_
        clear n2_
        have nh_ := Aside0.mk (below_step HB.out hb)
        clear HB hb
        have HB := nh_
        clear nh_
        refine hK.out _ _ ⟨(blk_cell BK0.out 0).trans rfl, (blk_cell BK0.out 1).trans rfl, (blk_cell BK0.out 2).trans rfl, (blk_cell BK0.out 3).trans rfl, (blk_cell BK0.out 4).trans rfl, (blk_cell BK1.out 0).trans rfl, (blk_cell BK1.out 1).trans rfl, (blk_cell BK2.out 0).trans rfl, (blk_cell BK2.out 1).trans rfl⟩ (fun hHeld => ?_)
        clear hK K
        refine norm_ (a' := ?_) ?_ ?_
        rotate_left
        · show Act.put _ (some 86) _ = _
          simp only [Act.put, List.setIfInBounds_toArray, List.set_cons_zero, List.set_cons_succ, i64_w, i32_w]
          rfl
        refine pure_ (i := 37) (N := some 87) (v := ?_) (a' := ?_) #[true, true, true, true, true, true, true, true, true, true, true, true, true, true, true, true, true, true, true, true, true, true, true, true, true, true, true, true, true, true, true, true, true, true, true, true, true, true, false, false, false, false, false, false, false, false, false, false, false, false] rfl rfl (any_of HT_.out (by kernel_rfl)) (fun _ _ _ h => h) (Or.inl ⟨by rfl, ?_⟩) ?_ ?_
        rotate_left
        · intro w'
          go_simp
          with_reducible rfl
        rotate_left
        · simp only [Act.put, List.setIfInBounds_toArray, List.set_cons_zero, List.set_cons_succ, i64_w, i32_w]
          rfl
        refine pure_ (i := 38) (N := some 88) (v := ?_) (a' := ?_) #[true, true, true, true, true, true, true, true, true, true, true, true, true, true, true, true, true, true, true, true, true, true, true, true, true, true, true, true, true, true, true, true, true, true, true, true, true, true, true, false, false, false, false, false, false, false, false, false, false, false] rfl rfl (any_of HT_.out (by kernel_rfl)) (fun _ _ _ h => h) (Or.inl ⟨by rfl, ?_⟩) ?_ ?_
        rotate_left
        · intro w'
          go_simp
          with_reducible rfl
        rotate_left
        · simp only [Act.put, List.setIfInBounds_toArray, List.set_cons_zero, List.set_cons_succ, i64_w, i32_w]
          rfl
        refine pure_ (i := 39) (N := some 89) (v := ?_) (a' := ?_) #[true, true, true, true, true, true, true, true, true, true, true, true, true, true, true, true, true, true, true, true, true, true, true, true, true, true, true, true, true, true, true, true, true, true, true, true, true, true, true, true, false, false, false, false, false, false, false, false, false, false] rfl rfl (any_of HT_.out (by kernel_rfl)) (fun _ _ _ h => h) (Or.inl ⟨by rfl, ?_⟩) ?_ ?_
        rotate_left
        · intro w'
          go_simp
          with_reducible rfl
        rotate_left
        · simp only [Act.put, List.setIfInBounds_toArray, List.set_cons_zero, List.set_cons_succ, i64_w, i32_w]
          rfl
        refine pure_ (i := 42) (N := some 92) (v := ?_) (a' := ?_) #[true, true, true, true, true, true, true, true, true, true, true, true, true, true, true, true, true, true, true, true, true, true, true, true, true, true, true, true, true, true, true, true, true, true, true, true, true, true, true, true, false, false, true, false, false, false, false, false, false, false] rfl rfl (any_of HT_.out (by kernel_rfl)) (fun _ _ _ h => h) (Or.inl ⟨by rfl, ?_⟩) ?_ ?_
        rotate_left
        · intro w'
          go_simp
          with_reducible rfl
        rotate_left
        · simp only [Act.put, List.setIfInBounds_toArray, List.set_cons_zero, List.set_cons_succ, i64_w, i32_w]
          rfl
        refine pure_ (i := 43) (N := some 93) (v := ?_) (a' := ?_) #[true, true, true, true, true, true, true, true, true, true, true, true, true, true, true, true, true, true, true, true, true, true, true, true, true, true, true, true, true, true, true, true, true, true, true, true, true, true, true, true, false, false, true, true, false, false, false, false, false, false] rfl rfl (any_of HT_.out (by kernel_rfl)) (fun _ _ _ h => h) (Or.inl ⟨by rfl, ?_⟩) ?_ ?_
        rotate_left
        · intro w'
          go_simp
          with_reducible rfl
        rotate_left
        · simp only [Act.put, List.setIfInBounds_toArray, List.set_cons_zero, List.set_cons_succ, i64_w, i32_w]
          rfl
        refine pure_ (i := 46) (N := some 96) (v := ?_) (a' := ?_) #[true, true, true, true, true, true, true, true, true, true, true, true, true, true, true, true, true, true, true, true, true, true, true, true, true, true, true, true, true, true, true, true, true, true, true, true, true, true, true, true, false, false, true, true, false, false, true, false, false, false] rfl rfl (any_of HT_.out (by kernel_rfl)) (fun _ _ _ h => h) (Or.inl ⟨by rfl, ?_⟩) ?_ ?_
        rotate_left
        · intro w'
          go_simp
          with_reducible rfl
        rotate_left
        · simp only [Act.put, List.setIfInBounds_toArray, List.set_cons_zero, List.set_cons_succ, i64_w, i32_w]
          rfl
        refine take_ (i := 40) (N := some 90) (v := ?_) (a' := ?_) #[true, true, true, true, true, true, true, true, true, true, true, true, true, true, true, true, true, true, true, true, true, true, true, true, true, true, true, true, true, true, true, true, true, true, true, true, true, true, true, true, true, false, true, true, false, false, true, false, false, false] rfl rfl (take_ofW HT_.out HW_.out (by kernel_rfl)) (fun _ _ _ h => h) (Or.inl ⟨by rfl, ?_⟩) hHeld ?_ ?_
        rotate_left
        · rintro w' ⟨s0, s1, s2, s3, s4, s5, s6, s7, s8⟩
          go_simp
          with_reducible rfl
        rotate_left
        · simp only [Act.put, List.setIfInBounds_toArray, List.set_cons_zero, List.set_cons_succ, i64_w, i32_w]
          rfl
        refine take_ (i := 41) (N := some 91) (v := ?_) (a' := ?_) #[true, true, true, true, true, true, true, true, true, true, true, true, true, true, true, true, true, true, true, true, true, true, true, true, true, true, true, true, true, true, true, true, true, true, true, true, true, true, true, true, true, true, true, true, false, false, true, false, false, false] rfl rfl (take_ofW HT_.out HW_.out (by kernel_rfl)) (fun _ _ _ h => h) (Or.inl ⟨by rfl, ?_⟩) hHeld ?_ ?_
        rotate_left
        · rintro w' ⟨s0, s1, s2, s3, s4, s5, s6, s7, s8⟩
          go_simp
          with_reducible rfl
        rotate_left
        · simp only [Act.put, List.setIfInBounds_toArray, List.set_cons_zero, List.set_cons_succ, i64_w, i32_w]
          rfl
        refine one_ (i := 44) (N := some 94) #[true, true, true, true, true, true, true, true, true, true, true, true, true, true, true, true, true, true, true, true, true, true, true, true, true, true, true, true, true, true, true, true, true, true, true, true, true, true, true, true, true, true, true, true, true, false, true, false, false, false] rfl rfl (one_of HT_.out (by kernel_rfl)) (by decide) (fun K hK => ?_)
        refine goes_ Try.func21 (by kernel_rfl) rfl #[.agg #[.int .i64 t, .int .i64 b, .int .i64 i, .int .i64 f, .int .i64 c], .int .i64 (Int.tmod (wrap64 p) t), .int .i64 (Int.tmod (wrap64 x) c)] (by rfl) rfl rfl (by (try simp only [List.map_toArray, List.map_cons, List.map_nil]); first | done | rfl) ?_
        with_reducible refine (layout_Op.calls k t b i f c (Int.tmod (wrap64 p) t) (Int.tmod (wrap64 x) c) v3 _ Hv3.out).mono ?_
        rintro e w9 ⟨rfl, hb⟩
        refine ⟨_, rfl, ?_⟩
        have n0_ := Aside0.mk (blk_below BK0.out hb)
        clear BK0
        have BK0 := n0_
        clear n0_
        have n1_ := Aside0.mk (blk_below BK1.out hb)
        clear BK1
        have BK1 := n1_
        clear n1_
        have n2_ := Aside0.mk (blk_below BK2.out hb)
        clear BK2
        have BK2 := n2_
        clear n2_
        have nh_ := Aside0.mk (below_step HB.out hb)
        clear HB hb
        have HB := nh_
        clear nh_
        refine hK.out _ _ ⟨(blk_cell BK0.out 0).trans rfl, (blk_cell BK0.out 1).trans rfl, (blk_cell BK0.out 2).trans rfl, (blk_cell BK0.out 3).trans rfl, (blk_cell BK0.out 4).trans rfl, (blk_cell BK1.out 0).trans rfl, (blk_cell BK1.out 1).trans rfl, (blk_cell BK2.out 0).trans rfl, (blk_cell BK2.out 1).trans rfl⟩ (fun hHeld => ?_)
        clear hK K
        refine norm_ (a' := ?_) ?_ ?_
        rotate_left
        · show Act.put _ (some 94) _ = _
          simp only [Act.put, List.setIfInBounds_toArray, List.set_cons_zero, List.set_cons_succ, i64_w, i32_w]
          rfl
        refine one_ (i := 45) (N := some 95) #[true, true, true, true, true, true, true, true, true, true, true, true, true, true, true, true, true, true, true, true, true, true, true, true, true, true, true, true, true, true, true, true, true, true, true, true, true, true, true, true, true, true, true, true, true, true, true, false, false, false] rfl rfl (one_of HT_.out (by kernel_rfl)) (by decide) (fun K hK => ?_)
        refine goes_ Try.func23 (by kernel_rfl) rfl #[.agg #[.int .i64 t, .int .i64 b, .int .i64 i, .int .i64 f, .int .i64 c], .int .i64 v3] (by rfl) rfl rfl (by (try simp only [List.map_toArray, List.map_cons, List.map_nil]); first | done | rfl) ?_
        with_reducible refine (layout_Thread.calls k t b i f c v3 (Int.tmod (wrap64 p) t) _ Hu3.out).mono ?_
        rintro e w10 ⟨rfl, hb⟩
        refine ⟨_, rfl, ?_⟩
        have n0_ := Aside0.mk (blk_below BK0.out hb)
        clear BK0
        have BK0 := n0_
        clear n0_
        have n1_ := Aside0.mk (blk_below BK1.out hb)
        clear BK1
        have BK1 := n1_
        clear n1_
        have n2_ := Aside0.mk (blk_below BK2.out hb)
        clear BK2
        have BK2 := n2_
        clear n2_
        have nh_ := Aside0.mk (below_step HB.out hb)
        clear HB hb
        have HB := nh_
        clear nh_
        refine hK.out _ _ ⟨(blk_cell BK0.out 0).trans rfl, (blk_cell BK0.out 1).trans rfl, (blk_cell BK0.out 2).trans rfl, (blk_cell BK0.out 3).trans rfl, (blk_cell BK0.out 4).trans rfl, (blk_cell BK1.out 0).trans rfl, (blk_cell BK1.out 1).trans rfl, (blk_cell BK2.out 0).trans rfl, (blk_cell BK2.out 1).trans rfl⟩ (fun hHeld => ?_)
        clear hK K
        refine norm_ (a' := ?_) ?_ ?_
        rotate_left
        · show Act.put _ (some 95) _ = _
          simp only [Act.put, List.setIfInBounds_toArray, List.set_cons_zero, List.set_cons_succ, i64_w, i32_w]
          rfl
        refine pure_ (i := 47) (N := some 97) (v := ?_) (a' := ?_) #[true, true, true, true, true, true, true, true, true, true, true, true, true, true, true, true, true, true, true, true, true, true, true, true, true, true, true, true, true, true, true, true, true, true, true, true, true, true, true, true, true, true, true, true, true, true, true, true, false, false] rfl rfl (any_of HT_.out (by kernel_rfl)) (fun _ _ _ h => h) (Or.inl ⟨by rfl, ?_⟩) ?_ ?_
        rotate_left
        · intro w'
          go_simp
          with_reducible rfl
        rotate_left
        · simp only [Act.put, List.setIfInBounds_toArray, List.set_cons_zero, List.set_cons_succ, i64_w, i32_w]
          rfl
        refine pure_ (i := 48) (N := some 98) (v := ?_) (a' := ?_) #[true, true, true, true, true, true, true, true, true, true, true, true, true, true, true, true, true, true, true, true, true, true, true, true, true, true, true, true, true, true, true, true, true, true, true, true, true, true, true, true, true, true, true, true, true, true, true, true, true, false] rfl rfl (any_of HT_.out (by kernel_rfl)) (fun _ _ _ h => h) (Or.inl ⟨by rfl, ?_⟩) ?_ ?_
        rotate_left
        · intro w'
          go_simp
          with_reducible rfl
        rotate_left
        · simp only [Act.put, List.setIfInBounds_toArray, List.set_cons_zero, List.set_cons_succ, i64_w, i32_w]
          rfl
        refine pure_ (i := 49) (N := some 6) (v := ?_) (a' := ?_) #[true, true, true, true, true, true, true, true, true, true, true, true, true, true, true, true, true, true, true, true, true, true, true, true, true, true, true, true, true, true, true, true, true, true, true, true, true, true, true, true, true, true, true, true, true, true, true, true, true, true] rfl rfl (any_of HT_.out (by kernel_rfl)) (fun _ _ _ h => h) (Or.inl ⟨by rfl, ?_⟩) ?_ ?_
        rotate_left
        · intro w'
          go_simp
          with_reducible rfl
        rotate_left
        · simp only [Act.put, List.setIfInBounds_toArray, List.set_cons_zero, List.set_cons_succ, i64_w, i32_w]
          rfl
        refine done_ (done_of HT_.out (by kernel_rfl)) ?_
        go_wp2
        go_ret
        exact ⟨rfl, HB.out⟩
    · rw [if_neg e4] at h
      have sb := beq_eq_false_iff_ne.mpr e4
      clear e4
      obtain ⟨v0, hv0, hn_⟩ := Option.bind_eq_some_iff.mp h
      clear h
      have h := hn_
      clear hn_
      have Hv0 := Aside0.mk hv0
      clear hv0
      obtain ⟨u0, hu0, hn_⟩ := Option.bind_eq_some_iff.mp h
      clear h
      have h := hn_
      clear hn_
      have Hu0 := Aside0.mk hu0
      clear hu0
      by_cases e14 : (v0 == u0) = false
      rotate_left
      · rw [if_neg e14] at h
        cases h
      rw [if_pos e14] at h
      have bae14 := e14
      clear e14
      obtain ⟨v1, hv1, hn_⟩ := Option.bind_eq_some_iff.mp h
      clear h
      have h := hn_
      clear hn_
      have Hv1 := Aside0.mk hv1
      clear hv1
      obtain ⟨u1, hu1, hn_⟩ := Option.bind_eq_some_iff.mp h
      clear h
      have h := hn_
      clear hn_
      have Hu1 := Aside0.mk hu1
      clear hu1
      by_cases e15 : (v1 == u1) = false
      rotate_left
      · rw [if_neg e15] at h
        cases h
      rw [if_pos e15] at h
      have bbe15 := e15
      clear e15
      obtain ⟨v2, hv2, hn_⟩ := Option.bind_eq_some_iff.mp h
      clear h
      have h := hn_
      clear hn_
      have Hv2 := Aside0.mk hv2
      clear hv2
      obtain ⟨u2, hu2, hn_⟩ := Option.bind_eq_some_iff.mp h
      clear h
      have h := hn_
      clear hn_
      have Hu2 := Aside0.mk hu2
      clear hu2
      by_cases e16 : u2 < v2
      rotate_left
      · rw [if_neg e16] at h
        cases h
      rw [if_pos e16] at h
      obtain ⟨v3, hv3, hn_⟩ := Option.bind_eq_some_iff.mp h
      clear h
      have h := hn_
      clear hn_
      have Hv3 := Aside0.mk hv3
      clear hv3
      obtain ⟨u3, hu3, hn_⟩ := Option.bind_eq_some_iff.mp h
      clear h
      have h := hn_
      clear hn_
      have Hu3 := Aside0.mk hu3
      clear hu3
      by_cases e17 : u3 = Int.tmod (wrap64 p) t
      rotate_left
      · rw [if_neg e17] at h
        cases h
      rw [if_pos e17] at h
      subst e17
      obtain rfl := Option.some.inj h
      clear h
      have T1 : True := trivial
      have HB0 := Aside0.mk (show Below w.heap.size w (((w.alloc (.cells #[.int .i64 t, .int .i64 b, .int .i64 i, .int .i64 f, .int .i64 c] 23)).alloc (.cells #[.int .u8 p, .int .u8 q] 32)).alloc (.cells #[.int .u16 x, .int .u16 y] 33)) from by repeat (first | exact Below.refl _ _ | apply below_alloc))
      have BK0_0 := Aside0.mk (show (((w.alloc (.cells #[.int .i64 t, .int .i64 b, .int .i64 i, .int .i64 f, .int .i64 c] 23)).alloc (.cells #[.int .u8 p, .int .u8 q] 32)).alloc (.cells #[.int .u16 x, .int .u16 y] 33)).heap[w.heap.size]? = some (.cells #[.int .i64 t, .int .i64 b, .int .i64 i, .int .i64 f, .int .i64 c] 23 (0, 0)) from (blk_alloc (blk_alloc (by simpa using blk_new w (.cells #[.int .i64 t, .int .i64 b, .int .i64 i, .int .i64 f, .int .i64 c] 23)) _) _))
      have BK1_0 := Aside0.mk (show (((w.alloc (.cells #[.int .i64 t, .int .i64 b, .int .i64 i, .int .i64 f, .int .i64 c] 23)).alloc (.cells #[.int .u8 p, .int .u8 q] 32)).alloc (.cells #[.int .u16 x, .int .u16 y] 33)).heap[(w.heap.size + 1)]? = some (.cells #[.int .u8 p, .int .u8 q] 32 (0, 0)) from (blk_alloc (by simpa using blk_new (w.alloc (.cells #[.int .i64 t, .int .i64 b, .int .i64 i, .int .i64 f, .int .i64 c] 23)) (.cells #[.int .u8 p, .int .u8 q] 32)) _))
      have BK2_0 := Aside0.mk (show (((w.alloc (.cells #[.int .i64 t, .int .i64 b, .int .i64 i, .int .i64 f, .int .i64 c] 23)).alloc (.cells #[.int .u8 p, .int .u8 q] 32)).alloc (.cells #[.int .u16 x, .int .u16 y] 33)).heap[(w.heap.size + 2)]? = some (.cells #[.int .u16 x, .int .u16 y] 33 (0, 0)) from (by simpa using blk_new ((w.alloc (.cells #[.int .i64 t, .int .i64 b, .int .i64 i, .int .i64 f, .int .i64 c] 23)).alloc (.cells #[.int .u8 p, .int .u8 q] 32)) (.cells #[.int .u16 x, .int .u16 y] 33)))
      go_enter Try.func6, Try.ntmps6
      go_wp2_with (first | (go_at_call 8; have _t := T1; clear T1 _t; (with_reducible refine (corrielaw05_awake.calls true _ rfl).mono ?_); rintro e w1 ⟨rfl, hb1⟩; have HB1 := Aside0.mk (below_step HB0.out hb1); have BK0_1 := Aside0.mk (blk_below BK0_0.out hb1); clear BK0_0; have BK1_1 := Aside0.mk (blk_below BK1_0.out hb1); clear BK1_0; have BK2_1 := Aside0.mk (blk_below BK2_0.out hb1); clear BK2_0; clear HB0; have c1_0_0 : w1.cell? ⟨w.heap.size, 0, none⟩ = some (.int .i64 t) := (blk_cell BK0_1.out 0).trans rfl; have c1_0_1 : w1.cell? ⟨w.heap.size, 1, none⟩ = some (.int .i64 b) := (blk_cell BK0_1.out 1).trans rfl; have c1_0_2 : w1.cell? ⟨w.heap.size, 2, none⟩ = some (.int .i64 i) := (blk_cell BK0_1.out 2).trans rfl; have c1_0_3 : w1.cell? ⟨w.heap.size, 3, none⟩ = some (.int .i64 f) := (blk_cell BK0_1.out 3).trans rfl; have c1_0_4 : w1.cell? ⟨w.heap.size, 4, none⟩ = some (.int .i64 c) := (blk_cell BK0_1.out 4).trans rfl; have c1_1_0 : w1.cell? ⟨(w.heap.size + 1), 0, none⟩ = some (.int .u8 p) := (blk_cell BK1_1.out 0).trans rfl; have c1_1_1 : w1.cell? ⟨(w.heap.size + 1), 1, none⟩ = some (.int .u8 q) := (blk_cell BK1_1.out 1).trans rfl; have c1_2_0 : w1.cell? ⟨(w.heap.size + 2), 0, none⟩ = some (.int .u16 x) := (blk_cell BK2_1.out 0).trans rfl; have c1_2_1 : w1.cell? ⟨(w.heap.size + 2), 1, none⟩ = some (.int .u16 y) := (blk_cell BK2_1.out 1).trans rfl; have z1_0 : w.heap.size < w1.heap.size := blk_lt BK0_1.out; have z1_1 : (w.heap.size + 1) < w1.heap.size := blk_lt BK1_1.out; have z1_2 : (w.heap.size + 2) < w1.heap.size := blk_lt BK2_1.out; clear hb1; have T2 : True := trivial) | (go_at_call 25; have _t := T2; clear T2 _t; (with_reducible refine (corrieref04_May.calls k t b i f c 0 _ Hm.out).mono ?_); rintro e w2 ⟨rfl, hb2⟩; have HB2 := Aside0.mk (below_step HB1.out hb2); have BK0_2 := Aside0.mk (blk_below BK0_1.out hb2); clear BK0_1; have BK1_2 := Aside0.mk (blk_below BK1_1.out hb2); clear BK1_1; have BK2_2 := Aside0.mk (blk_below BK2_1.out hb2); clear BK2_1; clear HB1; (try clear c1_0_0 c1_0_1 c1_0_2 c1_0_3 c1_0_4 c1_1_0 c1_1_1 c1_2_0 c1_2_1 z1_0 z1_1 z1_2); have c2_0_0 : w2.cell? ⟨w.heap.size, 0, none⟩ = some (.int .i64 t) := (blk_cell BK0_2.out 0).trans rfl; have c2_0_1 : w2.cell? ⟨w.heap.size, 1, none⟩ = some (.int .i64 b) := (blk_cell BK0_2.out 1).trans rfl; have c2_0_2 : w2.cell? ⟨w.heap.size, 2, none⟩ = some (.int .i64 i) := (blk_cell BK0_2.out 2).trans rfl; have c2_0_3 : w2.cell? ⟨w.heap.size, 3, none⟩ = some (.int .i64 f) := (blk_cell BK0_2.out 3).trans rfl; have c2_0_4 : w2.cell? ⟨w.heap.size, 4, none⟩ = some (.int .i64 c) := (blk_cell BK0_2.out 4).trans rfl; have c2_1_0 : w2.cell? ⟨(w.heap.size + 1), 0, none⟩ = some (.int .u8 p) := (blk_cell BK1_2.out 0).trans rfl; have c2_1_1 : w2.cell? ⟨(w.heap.size + 1), 1, none⟩ = some (.int .u8 q) := (blk_cell BK1_2.out 1).trans rfl; have c2_2_0 : w2.cell? ⟨(w.heap.size + 2), 0, none⟩ = some (.int .u16 x) := (blk_cell BK2_2.out 0).trans rfl; have c2_2_1 : w2.cell? ⟨(w.heap.size + 2), 1, none⟩ = some (.int .u16 y) := (blk_cell BK2_2.out 1).trans rfl; have z2_0 : w.heap.size < w2.heap.size := blk_lt BK0_2.out; have z2_1 : (w.heap.size + 1) < w2.heap.size := blk_lt BK1_2.out; have z2_2 : (w.heap.size + 2) < w2.heap.size := blk_lt BK2_2.out; clear hb2; have T3 : True := trivial))
      try clear c2_0_0 c2_0_1 c2_0_2 c2_0_3 c2_0_4 c2_1_0 c2_1_1 c2_2_0 c2_2_1 z2_0 z2_1 z2_2
      have BK0 := Aside0.mk (blk_drew BK0_2.out)
      clear BK0_2
      have BK1 := Aside0.mk (blk_drew BK1_2.out)
      clear BK1_2
      have BK2 := Aside0.mk (blk_drew BK2_2.out)
      clear BK2_2
      have HB := Aside0.mk (below_drew1 HB2.out)
      clear HB2
      refine start_ (n := 50) (S := fun w' => w'.cell? ⟨w.heap.size, 0, none⟩ = some (.int .i64 t) ∧ w'.cell? ⟨w.heap.size, 1, none⟩ = some (.int .i64 b) ∧ w'.cell? ⟨w.heap.size, 2, none⟩ = some (.int .i64 i) ∧ w'.cell? ⟨w.heap.size, 3, none⟩ = some (.int .i64 f) ∧ w'.cell? ⟨w.heap.size, 4, none⟩ = some (.int .i64 c) ∧ w'.cell? ⟨(w.heap.size + 1), 0, none⟩ = some (.int .u8 p) ∧ w'.cell? ⟨(w.heap.size + 1), 1, none⟩ = some (.int .u8 q) ∧ w'.cell? ⟨(w.heap.size + 2), 0, none⟩ = some (.int .u16 x) ∧ w'.cell? ⟨(w.heap.size + 2), 1, none⟩ = some (.int .u16 y)) (ds := []) #[false, false, false, false, false, false, false, false, false, false, false, false, false, false, false, false, false, false, false, false, false, false, false, false, false, false, false, false, false, false, false, false, false, false, false, false, false, false, false, false, false, false, false, false, false, false, false, false, false, false] (by kernel_rfl) rfl rfl ⟨(blk_cell BK0.out 0).trans rfl, (blk_cell BK0.out 1).trans rfl, (blk_cell BK0.out 2).trans rfl, (blk_cell BK0.out 3).trans rfl, (blk_cell BK0.out 4).trans rfl, (blk_cell BK1.out 0).trans rfl, (blk_cell BK1.out 1).trans rfl, (blk_cell BK2.out 0).trans rfl, (blk_cell BK2.out 1).trans rfl⟩ (fun hHeld => ?_)
      refine with_tabW corrielaw05_LayoutApart.tab9 corrielaw05_LayoutApart.bits9 (fun HT_ HW_ => ?_)
      generalize w2.drew = W9_2 at BK0 BK1 BK2 HB hHeld ⊢
      refine pure_ (i := 0) (N := some 50) (v := ?_) (a' := ?_) #[true, false, false, false, false, false, false, false, false, false, false, false, false, false, false, false, false, false, false, false, false, false, false, false, false, false, false, false, false, false, false, false, false, false, false, false, false, false, false, false, false, false, false, false, false, false, false, false, false, false] rfl rfl (any_of HT_.out (by kernel_rfl)) (fun _ _ _ h => h) (Or.inl ⟨by rfl, ?_⟩) ?_ ?_
      rotate_left
      · intro w'
        go_simp
        with_reducible rfl
      rotate_left
      · simp only [Act.put, List.setIfInBounds_toArray, List.set_cons_zero, List.set_cons_succ, i64_w, i32_w]
        rfl
      refine pure_ (i := 1) (N := some 51) (v := ?_) (a' := ?_) #[true, true, false, false, false, false, false, false, false, false, false, false, false, false, false, false, false, false, false, false, false, false, false, false, false, false, false, false, false, false, false, false, false, false, false, false, false, false, false, false, false, false, false, false, false, false, false, false, false, false] rfl rfl (any_of HT_.out (by kernel_rfl)) (fun _ _ _ h => h) (Or.inl ⟨by rfl, ?_⟩) ?_ ?_
      rotate_left
      · intro w'
        go_simp
        with_reducible rfl
      rotate_left
      · simp only [Act.put, List.setIfInBounds_toArray, List.set_cons_zero, List.set_cons_succ, i64_w, i32_w]
        rfl
      refine pure_ (i := 3) (N := some 53) (v := ?_) (a' := ?_) #[true, true, false, true, false, false, false, false, false, false, false, false, false, false, false, false, false, false, false, false, false, false, false, false, false, false, false, false, false, false, false, false, false, false, false, false, false, false, false, false, false, false, false, false, false, false, false, false, false, false] rfl rfl (any_of HT_.out (by kernel_rfl)) (fun _ _ _ h => h) (Or.inl ⟨by rfl, ?_⟩) ?_ ?_
      rotate_left
      · intro w'
        go_simp
        with_reducible rfl
      rotate_left
      · simp only [Act.put, List.setIfInBounds_toArray, List.set_cons_zero, List.set_cons_succ, i64_w, i32_w]
        rfl
      refine pure_ (i := 4) (N := some 54) (v := ?_) (a' := ?_) #[true, true, false, true, true, false, false, false, false, false, false, false, false, false, false, false, false, false, false, false, false, false, false, false, false, false, false, false, false, false, false, false, false, false, false, false, false, false, false, false, false, false, false, false, false, false, false, false, false, false] rfl rfl (any_of HT_.out (by kernel_rfl)) (fun _ _ _ h => h) (Or.inl ⟨by rfl, ?_⟩) ?_ ?_
      rotate_left
      · intro w'
        go_simp
        with_reducible rfl
      rotate_left
      · simp only [Act.put, List.setIfInBounds_toArray, List.set_cons_zero, List.set_cons_succ, i64_w, i32_w]
        rfl
      refine pure_ (i := 7) (N := some 57) (v := ?_) (a' := ?_) #[true, true, false, true, true, false, false, true, false, false, false, false, false, false, false, false, false, false, false, false, false, false, false, false, false, false, false, false, false, false, false, false, false, false, false, false, false, false, false, false, false, false, false, false, false, false, false, false, false, false] rfl rfl (any_of HT_.out (by kernel_rfl)) (fun _ _ _ h => h) (Or.inl ⟨by rfl, ?_⟩) ?_ ?_
      rotate_left
      · intro w'
        go_simp
        with_reducible rfl
      rotate_left
      · simp only [Act.put, List.setIfInBounds_toArray, List.set_cons_zero, List.set_cons_succ, i64_w, i32_w]
        rfl
      refine pure_ (i := 8) (N := some 58) (v := ?_) (a' := ?_) #[true, true, false, true, true, false, false, true, true, false, false, false, false, false, false, false, false, false, false, false, false, false, false, false, false, false, false, false, false, false, false, false, false, false, false, false, false, false, false, false, false, false, false, false, false, false, false, false, false, false] rfl rfl (any_of HT_.out (by kernel_rfl)) (fun _ _ _ h => h) (Or.inl ⟨by rfl, ?_⟩) ?_ ?_
      rotate_left
      · intro w'
        go_simp
        with_reducible rfl
      rotate_left
      · simp only [Act.put, List.setIfInBounds_toArray, List.set_cons_zero, List.set_cons_succ, i64_w, i32_w]
        rfl
      refine pure_ (i := 11) (N := some 61) (v := ?_) (a' := ?_) #[true, true, false, true, true, false, false, true, true, false, false, true, false, false, false, false, false, false, false, false, false, false, false, false, false, false, false, false, false, false, false, false, false, false, false, false, false, false, false, false, false, false, false, false, false, false, false, false, false, false] rfl rfl (any_of HT_.out (by kernel_rfl)) (fun _ _ _ h => h) (Or.inl ⟨by rfl, ?_⟩) ?_ ?_
      rotate_left
      · intro w'
        go_simp
        with_reducible rfl
      rotate_left
      · simp only [Act.put, List.setIfInBounds_toArray, List.set_cons_zero, List.set_cons_succ, i64_w, i32_w]
        rfl
      refine take_ (i := 2) (N := some 52) (v := ?_) (a' := ?_) #[true, true, true, true, true, false, false, true, true, false, false, true, false, false, false, false, false, false, false, false, false, false, false, false, false, false, false, false, false, false, false, false, false, false, false, false, false, false, false, false, false, false, false, false, false, false, false, false, false, false] rfl rfl (take_ofW HT_.out HW_.out (by kernel_rfl)) (fun _ _ _ h => h) (Or.inl ⟨by rfl, ?_⟩) hHeld ?_ ?_
      rotate_left
      · rintro w' ⟨s0, s1, s2, s3, s4, s5, s6, s7, s8⟩
        go_simp
        with_reducible rfl
      rotate_left
      · simp only [Act.put, List.setIfInBounds_toArray, List.set_cons_zero, List.set_cons_succ, i64_w, i32_w]
        rfl
      refine take_ (i := 6) (N := some 56) (v := ?_) (a' := ?_) #[true, true, true, true, true, false, true, true, true, false, false, true, false, false, false, false, false, false, false, false, false, false, false, false, false, false, false, false, false, false, false, false, false, false, false, false, false, false, false, false, false, false, false, false, false, false, false, false, false, false] rfl rfl (take_ofW HT_.out HW_.out (by kernel_rfl)) (fun _ _ _ h => h) (Or.inl ⟨by rfl, ?_⟩) hHeld ?_ ?_
      rotate_left
      · rintro w' ⟨s0, s1, s2, s3, s4, s5, s6, s7, s8⟩
        go_simp
        with_reducible rfl
      rotate_left
      · simp only [Act.put, List.setIfInBounds_toArray, List.set_cons_zero, List.set_cons_succ, i64_w, i32_w]
        rfl
      refine one_ (i := 5) (N := some 55) #[true, true, true, true, true, true, true, true, true, false, false, true, false, false, false, false, false, false, false, false, false, false, false, false, false, false, false, false, false, false, false, false, false, false, false, false, false, false, false, false, false, false, false, false, false, false, false, false, false, false] rfl rfl (one_of HT_.out (by kernel_rfl)) (by decide) (fun K hK => ?_)
      refine goes_ Try.func19 (by kernel_rfl) rfl #[.agg #[.int .i64 t, .int .i64 b, .int .i64 i, .int .i64 f, .int .i64 c], .int .i64 (Int.tmod (wrap64 p) t), .int .i64 (Int.tmod (wrap64 x) c)] (by rfl) rfl rfl (by (try simp only [List.map_toArray, List.map_cons, List.map_nil]); first | done | rfl) ?_
      with_reducible refine (layout_Node.calls k t b i f c (Int.tmod (wrap64 p) t) (Int.tmod (wrap64 x) c) v0 _ Hv0.out).mono ?_
      rintro e w3 ⟨rfl, hb⟩
      refine ⟨_, rfl, ?_⟩
      have n0_ := Aside0.mk (blk_below BK0.out hb)
      clear BK0
      have BK0 := n0_
      clear n0_
      have n1_ := Aside0.mk (blk_below BK1.out hb)
      clear BK1
      have BK1 := n1_
      clear n1_
      have n2_ := Aside0.mk (blk_below BK2.out hb)
      clear BK2
      have BK2 := n2_
      clear n2_
      have nh_ := Aside0.mk (below_step HB.out hb)
      clear HB hb
      have HB := nh_
      clear nh_
      refine hK.out _ _ ⟨(blk_cell BK0.out 0).trans rfl, (blk_cell BK0.out 1).trans rfl, (blk_cell BK0.out 2).trans rfl, (blk_cell BK0.out 3).trans rfl, (blk_cell BK0.out 4).trans rfl, (blk_cell BK1.out 0).trans rfl, (blk_cell BK1.out 1).trans rfl, (blk_cell BK2.out 0).trans rfl, (blk_cell BK2.out 1).trans rfl⟩ (fun hHeld => ?_)
      clear hK K
      refine norm_ (a' := ?_) ?_ ?_
      rotate_left
      · show Act.put _ (some 55) _ = _
        simp only [Act.put, List.setIfInBounds_toArray, List.set_cons_zero, List.set_cons_succ, i64_w, i32_w]
        rfl
      refine one_ (i := 9) (N := some 59) #[true, true, true, true, true, true, true, true, true, true, false, true, false, false, false, false, false, false, false, false, false, false, false, false, false, false, false, false, false, false, false, false, false, false, false, false, false, false, false, false, false, false, false, false, false, false, false, false, false, false] rfl rfl (one_of HT_.out (by kernel_rfl)) (by decide) (fun K hK => ?_)
      refine goes_ Try.func19 (by kernel_rfl) rfl #[.agg #[.int .i64 t, .int .i64 b, .int .i64 i, .int .i64 f, .int .i64 c], .int .i64 (Int.tmod (wrap64 q) t), .int .i64 (Int.tmod (wrap64 y) c)] (by rfl) rfl rfl (by (try simp only [List.map_toArray, List.map_cons, List.map_nil]); first | done | rfl) ?_
      with_reducible refine (layout_Node.calls k t b i f c (Int.tmod (wrap64 q) t) (Int.tmod (wrap64 y) c) u0 _ Hu0.out).mono ?_
      rintro e w4 ⟨rfl, hb⟩
      refine ⟨_, rfl, ?_⟩
      have n0_ := Aside0.mk (blk_below BK0.out hb)
      clear BK0
      have BK0 := n0_
      clear n0_
      have n1_ := Aside0.mk (blk_below BK1.out hb)
      clear BK1
      have BK1 := n1_
      clear n1_
      have n2_ := Aside0.mk (blk_below BK2.out hb)
      clear BK2
      have BK2 := n2_
      clear n2_
      have nh_ := Aside0.mk (below_step HB.out hb)
      clear HB hb
      have HB := nh_
      clear nh_
      refine hK.out _ _ ⟨(blk_cell BK0.out 0).trans rfl, (blk_cell BK0.out 1).trans rfl, (blk_cell BK0.out 2).trans rfl, (blk_cell BK0.out 3).trans rfl, (blk_cell BK0.out 4).trans rfl, (blk_cell BK1.out 0).trans rfl, (blk_cell BK1.out 1).trans rfl, (blk_cell BK2.out 0).trans rfl, (blk_cell BK2.out 1).trans rfl⟩ (fun hHeld => ?_)
      clear hK K
      refine norm_ (a' := ?_) ?_ ?_
      rotate_left
      · show Act.put _ (some 59) _ = _
        simp only [Act.put, List.setIfInBounds_toArray, List.set_cons_zero, List.set_cons_succ, i64_w, i32_w]
        rfl
      refine pure_ (i := 10) (N := some 60) (v := ?_) (a' := ?_) #[true, true, true, true, true, true, true, true, true, true, true, true, false, false, false, false, false, false, false, false, false, false, false, false, false, false, false, false, false, false, false, false, false, false, false, false, false, false, false, false, false, false, false, false, false, false, false, false, false, false] rfl rfl (any_of HT_.out (by kernel_rfl)) (fun _ _ _ h => h) (Or.inl ⟨by rfl, ?_⟩) ?_ ?_
      rotate_left
      · intro w'
        go_simp
        with_reducible rfl
      rotate_left
      · simp only [Act.put, List.setIfInBounds_toArray, List.set_cons_zero, List.set_cons_succ, i64_w, i32_w]
        rfl
      refine pure_ (i := 12) (N := some 62) (v := ?_) (a' := ?_) #[true, true, true, true, true, true, true, true, true, true, true, true, true, false, false, false, false, false, false, false, false, false, false, false, false, false, false, false, false, false, false, false, false, false, false, false, false, false, false, false, false, false, false, false, false, false, false, false, false, false] rfl rfl (any_of HT_.out (by kernel_rfl)) (fun _ _ _ h => h) (Or.inl ⟨by rfl, ?_⟩) ?_ ?_
      rotate_left
      · intro w'
        go_simp
        with_reducible rfl
      rotate_left
      · simp only [Act.put, List.setIfInBounds_toArray, List.set_cons_zero, List.set_cons_succ, i64_w, i32_w]
        rfl
      refine pure_ (i := 13) (N := some 63) (v := ?_) (a' := ?_) #[true, true, true, true, true, true, true, true, true, true, true, true, true, true, false, false, false, false, false, false, false, false, false, false, false, false, false, false, false, false, false, false, false, false, false, false, false, false, false, false, false, false, false, false, false, false, false, false, false, false] rfl rfl (any_of HT_.out (by kernel_rfl)) (fun _ _ _ h => h) (Or.inl ⟨by rfl, ?_⟩) ?_ ?_
      rotate_left
      · intro w'
        go_simp
        with_reducible rfl
      rotate_left
      · simp only [Act.put, List.setIfInBounds_toArray, List.set_cons_zero, List.set_cons_succ, i64_w, i32_w]
        rfl
      refine pure_ (i := 14) (N := some 64) (v := ?_) (a' := ?_) #[true, true, true, true, true, true, true, true, true, true, true, true, true, true, true, false, false, false, false, false, false, false, false, false, false, false, false, false, false, false, false, false, false, false, false, false, false, false, false, false, false, false, false, false, false, false, false, false, false, false] rfl rfl (any_of HT_.out (by kernel_rfl)) (fun _ _ _ h => h) (Or.inl ⟨by rfl, ?_⟩) ?_ ?_
      rotate_left
      · intro w'
        go_simp
        with_reducible rfl
      rotate_left
      · simp only [Act.put, List.setIfInBounds_toArray, List.set_cons_zero, List.set_cons_succ, i64_w, i32_w]
        rfl
      refine pure_ (i := 16) (N := some 66) (v := ?_) (a' := ?_) #[true, true, true, true, true, true, true, true, true, true, true, true, true, true, true, false, true, false, false, false, false, false, false, false, false, false, false, false, false, false, false, false, false, false, false, false, false, false, false, false, false, false, false, false, false, false, false, false, false, false] rfl rfl (any_of HT_.out (by kernel_rfl)) (fun _ _ _ h => h) (Or.inl ⟨by rfl, ?_⟩) ?_ ?_
      rotate_left
      · intro w'
        go_simp
        with_reducible rfl
      rotate_left
      · simp only [Act.put, List.setIfInBounds_toArray, List.set_cons_zero, List.set_cons_succ, i64_w, i32_w]
        rfl
      refine pure_ (i := 17) (N := some 67) (v := ?_) (a' := ?_) #[true, true, true, true, true, true, true, true, true, true, true, true, true, true, true, false, true, true, false, false, false, false, false, false, false, false, false, false, false, false, false, false, false, false, false, false, false, false, false, false, false, false, false, false, false, false, false, false, false, false] rfl rfl (any_of HT_.out (by kernel_rfl)) (fun _ _ _ h => h) (Or.inl ⟨by rfl, ?_⟩) ?_ ?_
      rotate_left
      · intro w'
        go_simp
        with_reducible rfl
      rotate_left
      · simp only [Act.put, List.setIfInBounds_toArray, List.set_cons_zero, List.set_cons_succ, i64_w, i32_w]
        rfl
      refine pure_ (i := 20) (N := some 70) (v := ?_) (a' := ?_) #[true, true, true, true, true, true, true, true, true, true, true, true, true, true, true, false, true, true, false, false, true, false, false, false, false, false, false, false, false, false, false, false, false, false, false, false, false, false, false, false, false, false, false, false, false, false, false, false, false, false] rfl rfl (any_of HT_.out (by kernel_rfl)) (fun _ _ _ h => h) (Or.inl ⟨by rfl, ?_⟩) ?_ ?_
      rotate_left
      · intro w'
        go_simp
        with_reducible rfl
      rotate_left
      · simp only [Act.put, List.setIfInBounds_toArray, List.set_cons_zero, List.set_cons_succ, i64_w, i32_w]
        rfl
      refine pure_ (i := 21) (N := some 71) (v := ?_) (a' := ?_) #[true, true, true, true, true, true, true, true, true, true, true, true, true, true, true, false, true, true, false, false, true, true, false, false, false, false, false, false, false, false, false, false, false, false, false, false, false, false, false, false, false, false, false, false, false, false, false, false, false, false] rfl rfl (any_of HT_.out (by kernel_rfl)) (fun _ _ _ h => h) (Or.inl ⟨by rfl, ?_⟩) ?_ ?_
      rotate_left
      · intro w'
        go_simp
        with_reducible rfl
      rotate_left
      · simp only [Act.put, List.setIfInBounds_toArray, List.set_cons_zero, List.set_cons_succ, i64_w, i32_w]
        rfl
      refine pure_ (i := 24) (N := some 74) (v := ?_) (a' := ?_) #[true, true, true, true, true, true, true, true, true, true, true, true, true, true, true, false, true, true, false, false, true, true, false, false, true, false, false, false, false, false, false, false, false, false, false, false, false, false, false, false, false, false, false, false, false, false, false, false, false, false] rfl rfl (any_of HT_.out (by kernel_rfl)) (fun _ _ _ h => h) (Or.inl ⟨by rfl, ?_⟩) ?_ ?_
      rotate_left
      · intro w'
        go_simp
        with_reducible rfl
      rotate_left
      · simp only [Act.put, List.setIfInBounds_toArray, List.set_cons_zero, List.set_cons_succ, i64_w, i32_w]
        rfl
      refine take_ (i := 15) (N := some 65) (v := ?_) (a' := ?_) #[true, true, true, true, true, true, true, true, true, true, true, true, true, true, true, true, true, true, false, false, true, true, false, false, true, false, false, false, false, false, false, false, false, false, false, false, false, false, false, false, false, false, false, false, false, false, false, false, false, false] rfl rfl (take_ofW HT_.out HW_.out (by kernel_rfl)) (fun _ _ _ h => h) (Or.inl ⟨by rfl, ?_⟩) hHeld ?_ ?_
      rotate_left
      · rintro w' ⟨s0, s1, s2, s3, s4, s5, s6, s7, s8⟩
        go_simp
        with_reducible rfl
      rotate_left
      · simp only [Act.put, List.setIfInBounds_toArray, List.set_cons_zero, List.set_cons_succ, i64_w, i32_w]
        rfl
      refine take_ (i := 19) (N := some 69) (v := ?_) (a' := ?_) #[true, true, true, true, true, true, true, true, true, true, true, true, true, true, true, true, true, true, false, true, true, true, false, false, true, false, false, false, false, false, false, false, false, false, false, false, false, false, false, false, false, false, false, false, false, false, false, false, false, false] rfl rfl (take_ofW HT_.out HW_.out (by kernel_rfl)) (fun _ _ _ h => h) (Or.inl ⟨by rfl, ?_⟩) hHeld ?_ ?_
      rotate_left
      · rintro w' ⟨s0, s1, s2, s3, s4, s5, s6, s7, s8⟩
        go_simp
        with_reducible rfl
      rotate_left
      · simp only [Act.put, List.setIfInBounds_toArray, List.set_cons_zero, List.set_cons_succ, i64_w, i32_w]
        rfl
      refine one_ (i := 18) (N := some 68) #[true, true, true, true, true, true, true, true, true, true, true, true, true, true, true, true, true, true, true, true, true, true, false, false, true, false, false, false, false, false, false, false, false, false, false, false, false, false, false, false, false, false, false, false, false, false, false, false, false, false] rfl rfl (one_of HT_.out (by kernel_rfl)) (by decide) (fun K hK => ?_)
      refine goes_ Try.func21 (by kernel_rfl) rfl #[.agg #[.int .i64 t, .int .i64 b, .int .i64 i, .int .i64 f, .int .i64 c], .int .i64 (Int.tmod (wrap64 p) t), .int .i64 (Int.tmod (wrap64 x) c)] (by rfl) rfl rfl (by (try simp only [List.map_toArray, List.map_cons, List.map_nil]); first | done | rfl) ?_
      with_reducible refine (layout_Op.calls k t b i f c (Int.tmod (wrap64 p) t) (Int.tmod (wrap64 x) c) v1 _ Hv1.out).mono ?_
      rintro e w5 ⟨rfl, hb⟩
      refine ⟨_, rfl, ?_⟩
      have n0_ := Aside0.mk (blk_below BK0.out hb)
      clear BK0
      have BK0 := n0_
      clear n0_
      have n1_ := Aside0.mk (blk_below BK1.out hb)
      clear BK1
      have BK1 := n1_
      clear n1_
      have n2_ := Aside0.mk (blk_below BK2.out hb)
      clear BK2
      have BK2 := n2_
      clear n2_
      have nh_ := Aside0.mk (below_step HB.out hb)
      clear HB hb
      have HB := nh_
      clear nh_
      refine hK.out _ _ ⟨(blk_cell BK0.out 0).trans rfl, (blk_cell BK0.out 1).trans rfl, (blk_cell BK0.out 2).trans rfl, (blk_cell BK0.out 3).trans rfl, (blk_cell BK0.out 4).trans rfl, (blk_cell BK1.out 0).trans rfl, (blk_cell BK1.out 1).trans rfl, (blk_cell BK2.out 0).trans rfl, (blk_cell BK2.out 1).trans rfl⟩ (fun hHeld => ?_)
      clear hK K
      refine norm_ (a' := ?_) ?_ ?_
      rotate_left
      · show Act.put _ (some 68) _ = _
        simp only [Act.put, List.setIfInBounds_toArray, List.set_cons_zero, List.set_cons_succ, i64_w, i32_w]
        rfl
      refine one_ (i := 22) (N := some 72) #[true, true, true, true, true, true, true, true, true, true, true, true, true, true, true, true, true, true, true, true, true, true, true, false, true, false, false, false, false, false, false, false, false, false, false, false, false, false, false, false, false, false, false, false, false, false, false, false, false, false] rfl rfl (one_of HT_.out (by kernel_rfl)) (by decide) (fun K hK => ?_)
      refine goes_ Try.func21 (by kernel_rfl) rfl #[.agg #[.int .i64 t, .int .i64 b, .int .i64 i, .int .i64 f, .int .i64 c], .int .i64 (Int.tmod (wrap64 q) t), .int .i64 (Int.tmod (wrap64 y) c)] (by rfl) rfl rfl (by (try simp only [List.map_toArray, List.map_cons, List.map_nil]); first | done | rfl) ?_
      with_reducible refine (layout_Op.calls k t b i f c (Int.tmod (wrap64 q) t) (Int.tmod (wrap64 y) c) u1 _ Hu1.out).mono ?_
      rintro e w6 ⟨rfl, hb⟩
      refine ⟨_, rfl, ?_⟩
      have n0_ := Aside0.mk (blk_below BK0.out hb)
      clear BK0
      have BK0 := n0_
      clear n0_
      have n1_ := Aside0.mk (blk_below BK1.out hb)
      clear BK1
      have BK1 := n1_
      clear n1_
      have n2_ := Aside0.mk (blk_below BK2.out hb)
      clear BK2
      have BK2 := n2_
      clear n2_
      have nh_ := Aside0.mk (below_step HB.out hb)
      clear HB hb
      have HB := nh_
      clear nh_
      refine hK.out _ _ ⟨(blk_cell BK0.out 0).trans rfl, (blk_cell BK0.out 1).trans rfl, (blk_cell BK0.out 2).trans rfl, (blk_cell BK0.out 3).trans rfl, (blk_cell BK0.out 4).trans rfl, (blk_cell BK1.out 0).trans rfl, (blk_cell BK1.out 1).trans rfl, (blk_cell BK2.out 0).trans rfl, (blk_cell BK2.out 1).trans rfl⟩ (fun hHeld => ?_)
      clear hK K
      refine norm_ (a' := ?_) ?_ ?_
      rotate_left
      · show Act.put _ (some 72) _ = _
        simp only [Act.put, List.setIfInBounds_toArray, List.set_cons_zero, List.set_cons_succ, i64_w, i32_w]
        rfl
      refine pure_ (i := 23) (N := some 73) (v := ?_) (a' := ?_) #[true, true, true, true, true, true, true, true, true, true, true, true, true, true, true, true, true, true, true, true, true, true, true, true, true, false, false, false, false, false, false, false, false, false, false, false, false, false, false, false, false, false, false, false, false, false, false, false, false, false] rfl rfl (any_of HT_.out (by kernel_rfl)) (fun _ _ _ h => h) (Or.inl ⟨by rfl, ?_⟩) ?_ ?_
      rotate_left
      · intro w'
        go_simp
        with_reducible rfl
      rotate_left
      · simp only [Act.put, List.setIfInBounds_toArray, List.set_cons_zero, List.set_cons_succ, i64_w, i32_w]
        rfl
      refine pure_ (i := 25) (N := some 75) (v := ?_) (a' := ?_) #[true, true, true, true, true, true, true, true, true, true, true, true, true, true, true, true, true, true, true, true, true, true, true, true, true, true, false, false, false, false, false, false, false, false, false, false, false, false, false, false, false, false, false, false, false, false, false, false, false, false] rfl rfl (any_of HT_.out (by kernel_rfl)) (fun _ _ _ h => h) (Or.inl ⟨by rfl, ?_⟩) ?_ ?_
      rotate_left
      · intro w'
        go_simp
        with_reducible rfl
      rotate_left
      · simp only [Act.put, List.setIfInBounds_toArray, List.set_cons_zero, List.set_cons_succ, i64_w, i32_w]
        rfl
      refine pure_ (i := 26) (N := some 76) (v := ?_) (a' := ?_) #[true, true, true, true, true, true, true, true, true, true, true, true, true, true, true, true, true, true, true, true, true, true, true, true, true, true, true, false, false, false, false, false, false, false, false, false, false, false, false, false, false, false, false, false, false, false, false, false, false, false] rfl rfl (any_of HT_.out (by kernel_rfl)) (fun _ _ _ h => h) (Or.inl ⟨by rfl, ?_⟩) ?_ ?_
      rotate_left
      · intro w'
        go_simp
        with_reducible rfl
      rotate_left
      · simp only [Act.put, List.setIfInBounds_toArray, List.set_cons_zero, List.set_cons_succ, i64_w, i32_w]
        rfl
      refine pure_ (i := 27) (N := some 77) (v := ?_) (a' := ?_) #[true, true, true, true, true, true, true, true, true, true, true, true, true, true, true, true, true, true, true, true, true, true, true, true, true, true, true, true, false, false, false, false, false, false, false, false, false, false, false, false, false, false, false, false, false, false, false, false, false, false] rfl rfl (any_of HT_.out (by kernel_rfl)) (fun _ _ _ h => h) (Or.inl ⟨by rfl, ?_⟩) ?_ ?_
      rotate_left
      · intro w'
        go_simp
        with_reducible rfl
      rotate_left
      · simp only [Act.put, List.setIfInBounds_toArray, List.set_cons_zero, List.set_cons_succ, i64_w, i32_w]
        rfl
      refine pure_ (i := 29) (N := some 79) (v := ?_) (a' := ?_) #[true, true, true, true, true, true, true, true, true, true, true, true, true, true, true, true, true, true, true, true, true, true, true, true, true, true, true, true, false, true, false, false, false, false, false, false, false, false, false, false, false, false, false, false, false, false, false, false, false, false] rfl rfl (any_of HT_.out (by kernel_rfl)) (fun _ _ _ h => h) (Or.inl ⟨by rfl, ?_⟩) ?_ ?_
      rotate_left
      · intro w'
        go_simp
        with_reducible rfl
      rotate_left
      · simp only [Act.put, List.setIfInBounds_toArray, List.set_cons_zero, List.set_cons_succ, i64_w, i32_w]
        rfl
      refine pure_ (i := 30) (N := some 80) (v := ?_) (a' := ?_) #[true, true, true, true, true, true, true, true, true, true, true, true, true, true, true, true, true, true, true, true, true, true, true, true, true, true, true, true, false, true, true, false, false, false, false, false, false, false, false, false, false, false, false, false, false, false, false, false, false, false] rfl rfl (any_of HT_.out (by kernel_rfl)) (fun _ _ _ h => h) (Or.inl ⟨by rfl, ?_⟩) ?_ ?_
      rotate_left
      · intro w'
        go_simp
        with_reducible rfl
      rotate_left
      · simp only [Act.put, List.setIfInBounds_toArray, List.set_cons_zero, List.set_cons_succ, i64_w, i32_w]
        rfl
      refine pure_ (i := 33) (N := some 83) (v := ?_) (a' := ?_) #[true, true, true, true, true, true, true, true, true, true, true, true, true, true, true, true, true, true, true, true, true, true, true, true, true, true, true, true, false, true, true, false, false, true, false, false, false, false, false, false, false, false, false, false, false, false, false, false, false, false] rfl rfl (any_of HT_.out (by kernel_rfl)) (fun _ _ _ h => h) (Or.inl ⟨by rfl, ?_⟩) ?_ ?_
      rotate_left
      · intro w'
        go_simp
        with_reducible rfl
      rotate_left
      · simp only [Act.put, List.setIfInBounds_toArray, List.set_cons_zero, List.set_cons_succ, i64_w, i32_w]
        rfl
      refine take_ (i := 28) (N := some 78) (v := ?_) (a' := ?_) #[true, true, true, true, true, true, true, true, true, true, true, true, true, true, true, true, true, true, true, true, true, true, true, true, true, true, true, true, true, true, true, false, false, true, false, false, false, false, false, false, false, false, false, false, false, false, false, false, false, false] rfl rfl (take_ofW HT_.out HW_.out (by kernel_rfl)) (fun _ _ _ h => h) (Or.inl ⟨by rfl, ?_⟩) hHeld ?_ ?_
      rotate_left
      · rintro w' ⟨s0, s1, s2, s3, s4, s5, s6, s7, s8⟩
        go_simp
        with_reducible rfl
      rotate_left
      · simp only [Act.put, List.setIfInBounds_toArray, List.set_cons_zero, List.set_cons_succ, i64_w, i32_w]
        rfl
      refine take_ (i := 32) (N := some 82) (v := ?_) (a' := ?_) #[true, true, true, true, true, true, true, true, true, true, true, true, true, true, true, true, true, true, true, true, true, true, true, true, true, true, true, true, true, true, true, false, true, true, false, false, false, false, false, false, false, false, false, false, false, false, false, false, false, false] rfl rfl (take_ofW HT_.out HW_.out (by kernel_rfl)) (fun _ _ _ h => h) (Or.inl ⟨by rfl, ?_⟩) hHeld ?_ ?_
      rotate_left
      · rintro w' ⟨s0, s1, s2, s3, s4, s5, s6, s7, s8⟩
        go_simp
        with_reducible rfl
      rotate_left
      · simp only [Act.put, List.setIfInBounds_toArray, List.set_cons_zero, List.set_cons_succ, i64_w, i32_w]
        rfl
      refine take_ (i := 34) (N := some 84) (v := ?_) (a' := ?_) #[true, true, true, true, true, true, true, true, true, true, true, true, true, true, true, true, true, true, true, true, true, true, true, true, true, true, true, true, true, true, true, false, true, true, true, false, false, false, false, false, false, false, false, false, false, false, false, false, false, false] rfl rfl (take_ofW HT_.out HW_.out (by kernel_rfl)) (fun _ _ _ h => h) (Or.inl ⟨by rfl, ?_⟩) hHeld ?_ ?_
      rotate_left
      · rintro w' ⟨s0, s1, s2, s3, s4, s5, s6, s7, s8⟩
        go_simp
        with_reducible rfl
      rotate_left
      · simp only [Act.put, List.setIfInBounds_toArray, List.set_cons_zero, List.set_cons_succ, i64_w, i32_w]
        rfl
      refine pure_ (i := 35) (N := some 85) (v := ?_) (a' := ?_) #[true, true, true, true, true, true, true, true, true, true, true, true, true, true, true, true, true, true, true, true, true, true, true, true, true, true, true, true, true, true, true, false, true, true, true, true, false, false, false, false, false, false, false, false, false, false, false, false, false, false] rfl rfl (any_of HT_.out (by kernel_rfl)) (fun _ _ _ h => h) (Or.inl ⟨by rfl, ?_⟩) ?_ ?_
      rotate_left
      · intro w'
        go_simp
        with_reducible rfl
      rotate_left
      · simp only [Act.put, List.setIfInBounds_toArray, List.set_cons_zero, List.set_cons_succ, i64_w, i32_w]
        rfl
      refine one_ (i := 31) (N := some 81) #[true, true, true, true, true, true, true, true, true, true, true, true, true, true, true, true, true, true, true, true, true, true, true, true, true, true, true, true, true, true, true, true, true, true, true, true, false, false, false, false, false, false, false, false, false, false, false, false, false, false] rfl rfl (one_of HT_.out (by kernel_rfl)) (by decide) (fun K hK => ?_)
      refine goes_ Try.func19 (by kernel_rfl) rfl #[.agg #[.int .i64 t, .int .i64 b, .int .i64 i, .int .i64 f, .int .i64 c], .int .i64 (Int.tmod (wrap64 p) t), .int .i64 (Int.tmod (wrap64 x) c)] (by rfl) rfl rfl (by (try simp only [List.map_toArray, List.map_cons, List.map_nil]); first | done | rfl) ?_
      with_reducible refine (layout_Node.calls k t b i f c (Int.tmod (wrap64 p) t) (Int.tmod (wrap64 x) c) v2 _ Hv2.out).mono ?_
      rintro e w7 ⟨rfl, hb⟩
      refine ⟨_, rfl, ?_⟩
      have n0_ := Aside0.mk (blk_below BK0.out hb)
      clear BK0
      have BK0 := n0_
      clear n0_
      have n1_ := Aside0.mk (blk_below BK1.out hb)
      clear BK1
      have BK1 := n1_
      clear n1_
      have n2_ := Aside0.mk (blk_below BK2.out hb)
      clear BK2
      have BK2 := n2_
      clear n2_
      have nh_ := Aside0.mk (below_step HB.out hb)
      clear HB hb
      have HB := nh_
      clear nh_
      refine hK.out _ _ ⟨(blk_cell BK0.out 0).trans rfl, (blk_cell BK0.out 1).trans rfl, (blk_cell BK0.out 2).trans rfl, (blk_cell BK0.out 3).trans rfl, (blk_cell BK0.out 4).trans rfl, (blk_cell BK1.out 0).trans rfl, (blk_cell BK1.out 1).trans rfl, (blk_cell BK2.out 0).trans rfl, (blk_cell BK2.out 1).trans rfl⟩ (fun hHeld => ?_)
      clear hK K
      refine norm_ (a' := ?_) ?_ ?_
      rotate_left
      · show Act.put _ (some 81) _ = _
        simp only [Act.put, List.setIfInBounds_toArray, List.set_cons_zero, List.set_cons_succ, i64_w, i32_w]
        rfl
      refine one_ (i := 36) (N := some 86) #[true, true, true, true, true, true, true, true, true, true, true, true, true, true, true, true, true, true, true, true, true, true, true, true, true, true, true, true, true, true, true, true, true, true, true, true, true, false, false, false, false, false, false, false, false, false, false, false, false, false] rfl rfl (one_of HT_.out (by kernel_rfl)) (by decide) (fun K hK => ?_)
      refine goes_ Try.func17 (by kernel_rfl) rfl #[.agg #[.int .i64 t, .int .i64 b, .int .i64 i, .int .i64 f, .int .i64 c], .int .i64 (wrap64 (b - 1))] (by rfl) rfl rfl (by (try simp only [List.map_toArray, List.map_cons, List.map_nil]); first | done | rfl) ?_
      with_reducible refine (layout_Head.calls k t b i f c (wrap64 (b - 1)) u2 _ Hu2.out).mono ?_
      rintro e w8 ⟨rfl, hb⟩
      refine ⟨_, rfl, ?_⟩
      have n0_ := Aside0.mk (blk_below BK0.out hb)
      clear BK0
      have BK0 := n0_
      clear n0_
      have n1_ := Aside0.mk (blk_below BK1.out hb)
      clear BK1
      have BK1 := n1_
      clear n1_
      have n2_ := Aside0.mk (blk_below BK2.out hb)
      clear BK2
      have BK2 := n2_
      clear n2_
      have nh_ := Aside0.mk (below_step HB.out hb)
      clear HB hb
      have HB := nh_
      clear nh_
      refine hK.out _ _ ⟨(blk_cell BK0.out 0).trans rfl, (blk_cell BK0.out 1).trans rfl, (blk_cell BK0.out 2).trans rfl, (blk_cell BK0.out 3).trans rfl, (blk_cell BK0.out 4).trans rfl, (blk_cell BK1.out 0).trans rfl, (blk_cell BK1.out 1).trans rfl, (blk_cell BK2.out 0).trans rfl, (blk_cell BK2.out 1).trans rfl⟩ (fun hHeld => ?_)
      clear hK K
      refine norm_ (a' := ?_) ?_ ?_
      rotate_left
      · show Act.put _ (some 86) _ = _
        simp only [Act.put, List.setIfInBounds_toArray, List.set_cons_zero, List.set_cons_succ, i64_w, i32_w]
        rfl
      refine pure_ (i := 37) (N := some 87) (v := ?_) (a' := ?_) #[true, true, true, true, true, true, true, true, true, true, true, true, true, true, true, true, true, true, true, true, true, true, true, true, true, true, true, true, true, true, true, true, true, true, true, true, true, true, false, false, false, false, false, false, false, false, false, false, false, false] rfl rfl (any_of HT_.out (by kernel_rfl)) (fun _ _ _ h => h) (Or.inl ⟨by rfl, ?_⟩) ?_ ?_
      rotate_left
      · intro w'
        go_simp
        with_reducible rfl
      rotate_left
      · simp only [Act.put, List.setIfInBounds_toArray, List.set_cons_zero, List.set_cons_succ, i64_w, i32_w]
        rfl
      refine pure_ (i := 38) (N := some 88) (v := ?_) (a' := ?_) #[true, true, true, true, true, true, true, true, true, true, true, true, true, true, true, true, true, true, true, true, true, true, true, true, true, true, true, true, true, true, true, true, true, true, true, true, true, true, true, false, false, false, false, false, false, false, false, false, false, false] rfl rfl (any_of HT_.out (by kernel_rfl)) (fun _ _ _ h => h) (Or.inl ⟨by rfl, ?_⟩) ?_ ?_
      rotate_left
      · intro w'
        go_simp
        with_reducible rfl
      rotate_left
      · simp only [Act.put, List.setIfInBounds_toArray, List.set_cons_zero, List.set_cons_succ, i64_w, i32_w]
        rfl
      refine pure_ (i := 39) (N := some 89) (v := ?_) (a' := ?_) #[true, true, true, true, true, true, true, true, true, true, true, true, true, true, true, true, true, true, true, true, true, true, true, true, true, true, true, true, true, true, true, true, true, true, true, true, true, true, true, true, false, false, false, false, false, false, false, false, false, false] rfl rfl (any_of HT_.out (by kernel_rfl)) (fun _ _ _ h => h) (Or.inl ⟨by rfl, ?_⟩) ?_ ?_
      rotate_left
      · intro w'
        go_simp
        with_reducible rfl
      rotate_left
      · simp only [Act.put, List.setIfInBounds_toArray, List.set_cons_zero, List.set_cons_succ, i64_w, i32_w]
        rfl
      refine pure_ (i := 42) (N := some 92) (v := ?_) (a' := ?_) #[true, true, true, true, true, true, true, true, true, true, true, true, true, true, true, true, true, true, true, true, true, true, true, true, true, true, true, true, true, true, true, true, true, true, true, true, true, true, true, true, false, false, true, false, false, false, false, false, false, false] rfl rfl (any_of HT_.out (by kernel_rfl)) (fun _ _ _ h => h) (Or.inl ⟨by rfl, ?_⟩) ?_ ?_
      rotate_left
      · intro w'
        go_simp
        with_reducible rfl
      rotate_left
      · simp only [Act.put, List.setIfInBounds_toArray, List.set_cons_zero, List.set_cons_succ, i64_w, i32_w]
        rfl
      refine pure_ (i := 43) (N := some 93) (v := ?_) (a' := ?_) #[true, true, true, true, true, true, true, true, true, true, true, true, true, true, true, true, true, true, true, true, true, true, true, true, true, true, true, true, true, true, true, true, true, true, true, true, true, true, true, true, false, false, true, true, false, false, false, false, false, false] rfl rfl (any_of HT_.out (by kernel_rfl)) (fun _ _ _ h => h) (Or.inl ⟨by rfl, ?_⟩) ?_ ?_
      rotate_left
      · intro w'
        go_simp
        with_reducible rfl
      rotate_left
      · simp only [Act.put, List.setIfInBounds_toArray, List.set_cons_zero, List.set_cons_succ, i64_w, i32_w]
        rfl
      refine pure_ (i := 46) (N := some 96) (v := ?_) (a' := ?_) #[true, true, true, true, true, true, true, true, true, true, true, true, true, true, true, true, true, true, true, true, true, true, true, true, true, true, true, true, true, true, true, true, true, true, true, true, true, true, true, true, false, false, true, true, false, false, true, false, false, false] rfl rfl (any_of HT_.out (by kernel_rfl)) (fun _ _ _ h => h) (Or.inl ⟨by rfl, ?_⟩) ?_ ?_
      rotate_left
      · intro w'
        go_simp
        with_reducible rfl
      rotate_left
      · simp only [Act.put, List.setIfInBounds_toArray, List.set_cons_zero, List.set_cons_succ, i64_w, i32_w]
        rfl
      refine take_ (i := 40) (N := some 90) (v := ?_) (a' := ?_) #[true, true, true, true, true, true, true, true, true, true, true, true, true, true, true, true, true, true, true, true, true, true, true, true, true, true, true, true, true, true, true, true, true, true, true, true, true, true, true, true, true, false, true, true, false, false, true, false, false, false] rfl rfl (take_ofW HT_.out HW_.out (by kernel_rfl)) (fun _ _ _ h => h) (Or.inl ⟨by rfl, ?_⟩) hHeld ?_ ?_
      rotate_left
      · rintro w' ⟨s0, s1, s2, s3, s4, s5, s6, s7, s8⟩
        go_simp
        with_reducible rfl
      rotate_left
      · simp only [Act.put, List.setIfInBounds_toArray, List.set_cons_zero, List.set_cons_succ, i64_w, i32_w]
        rfl
      refine take_ (i := 41) (N := some 91) (v := ?_) (a' := ?_) #[true, true, true, true, true, true, true, true, true, true, true, true, true, true, true, true, true, true, true, true, true, true, true, true, true, true, true, true, true, true, true, true, true, true, true, true, true, true, true, true, true, true, true, true, false, false, true, false, false, false] rfl rfl (take_ofW HT_.out HW_.out (by kernel_rfl)) (fun _ _ _ h => h) (Or.inl ⟨by rfl, ?_⟩) hHeld ?_ ?_
      rotate_left
      · rintro w' ⟨s0, s1, s2, s3, s4, s5, s6, s7, s8⟩
        go_simp
        with_reducible rfl
      rotate_left
      · simp only [Act.put, List.setIfInBounds_toArray, List.set_cons_zero, List.set_cons_succ, i64_w, i32_w]
        rfl
      refine one_ (i := 44) (N := some 94) #[true, true, true, true, true, true, true, true, true, true, true, true, true, true, true, true, true, true, true, true, true, true, true, true, true, true, true, true, true, true, true, true, true, true, true, true, true, true, true, true, true, true, true, true, true, false, true, false, false, false] rfl rfl (one_of HT_.out (by kernel_rfl)) (by decide) (fun K hK => ?_)
      refine goes_ Try.func21 (by kernel_rfl) rfl #[.agg #[.int .i64 t, .int .i64 b, .int .i64 i, .int .i64 f, .int .i64 c], .int .i64 (Int.tmod (wrap64 p) t), .int .i64 (Int.tmod (wrap64 x) c)] (by rfl) rfl rfl (by (try simp only [List.map_toArray, List.map_cons, List.map_nil]); first | done | rfl) ?_
      with_reducible refine (layout_Op.calls k t b i f c (Int.tmod (wrap64 p) t) (Int.tmod (wrap64 x) c) v3 _ Hv3.out).mono ?_
      rintro e w9 ⟨rfl, hb⟩
      refine ⟨_, rfl, ?_⟩
      have n0_ := Aside0.mk (blk_below BK0.out hb)
      clear BK0
      have BK0 := n0_
      clear n0_
      have n1_ := Aside0.mk (blk_below BK1.out hb)
      clear BK1
      have BK1 := n1_
      clear n1_
      have n2_ := Aside0.mk (blk_below BK2.out hb)
      clear BK2
      have BK2 := n2_
      clear n2_
      have nh_ := Aside0.mk (below_step HB.out hb)
      clear HB hb
      have HB := nh_
      clear nh_
      refine hK.out _ _ ⟨(blk_cell BK0.out 0).trans rfl, (blk_cell BK0.out 1).trans rfl, (blk_cell BK0.out 2).trans rfl, (blk_cell BK0.out 3).trans rfl, (blk_cell BK0.out 4).trans rfl, (blk_cell BK1.out 0).trans rfl, (blk_cell BK1.out 1).trans rfl, (blk_cell BK2.out 0).trans rfl, (blk_cell BK2.out 1).trans rfl⟩ (fun hHeld => ?_)
      clear hK K
      refine norm_ (a' := ?_) ?_ ?_
      rotate_left
      · show Act.put _ (some 94) _ = _
        simp only [Act.put, List.setIfInBounds_toArray, List.set_cons_zero, List.set_cons_succ, i64_w, i32_w]
        rfl
      refine one_ (i := 45) (N := some 95) #[true, true, true, true, true, true, true, true, true, true, true, true, true, true, true, true, true, true, true, true, true, true, true, true, true, true, true, true, true, true, true, true, true, true, true, true, true, true, true, true, true, true, true, true, true, true, true, false, false, false] rfl rfl (one_of HT_.out (by kernel_rfl)) (by decide) (fun K hK => ?_)
      refine goes_ Try.func23 (by kernel_rfl) rfl #[.agg #[.int .i64 t, .int .i64 b, .int .i64 i, .int .i64 f, .int .i64 c], .int .i64 v3] (by rfl) rfl rfl (by (try simp only [List.map_toArray, List.map_cons, List.map_nil]); first | done | rfl) ?_
      with_reducible refine (layout_Thread.calls k t b i f c v3 (Int.tmod (wrap64 p) t) _ Hu3.out).mono ?_
      rintro e w10 ⟨rfl, hb⟩
      refine ⟨_, rfl, ?_⟩
      have n0_ := Aside0.mk (blk_below BK0.out hb)
      clear BK0
      have BK0 := n0_
      clear n0_
      have n1_ := Aside0.mk (blk_below BK1.out hb)
      clear BK1
      have BK1 := n1_
      clear n1_
      have n2_ := Aside0.mk (blk_below BK2.out hb)
      clear BK2
      have BK2 := n2_
      clear n2_
      have nh_ := Aside0.mk (below_step HB.out hb)
      clear HB hb
      have HB := nh_
      clear nh_
      refine hK.out _ _ ⟨(blk_cell BK0.out 0).trans rfl, (blk_cell BK0.out 1).trans rfl, (blk_cell BK0.out 2).trans rfl, (blk_cell BK0.out 3).trans rfl, (blk_cell BK0.out 4).trans rfl, (blk_cell BK1.out 0).trans rfl, (blk_cell BK1.out 1).trans rfl, (blk_cell BK2.out 0).trans rfl, (blk_cell BK2.out 1).trans rfl⟩ (fun hHeld => ?_)
      clear hK K
      refine norm_ (a' := ?_) ?_ ?_
      rotate_left
      · show Act.put _ (some 95) _ = _
        simp only [Act.put, List.setIfInBounds_toArray, List.set_cons_zero, List.set_cons_succ, i64_w, i32_w]
        rfl
      refine pure_ (i := 47) (N := some 97) (v := ?_) (a' := ?_) #[true, true, true, true, true, true, true, true, true, true, true, true, true, true, true, true, true, true, true, true, true, true, true, true, true, true, true, true, true, true, true, true, true, true, true, true, true, true, true, true, true, true, true, true, true, true, true, true, false, false] rfl rfl (any_of HT_.out (by kernel_rfl)) (fun _ _ _ h => h) (Or.inl ⟨by rfl, ?_⟩) ?_ ?_
      rotate_left
      · intro w'
        go_simp
        with_reducible rfl
      rotate_left
      · simp only [Act.put, List.setIfInBounds_toArray, List.set_cons_zero, List.set_cons_succ, i64_w, i32_w]
        rfl
      refine pure_ (i := 48) (N := some 98) (v := ?_) (a' := ?_) #[true, true, true, true, true, true, true, true, true, true, true, true, true, true, true, true, true, true, true, true, true, true, true, true, true, true, true, true, true, true, true, true, true, true, true, true, true, true, true, true, true, true, true, true, true, true, true, true, true, false] rfl rfl (any_of HT_.out (by kernel_rfl)) (fun _ _ _ h => h) (Or.inl ⟨by rfl, ?_⟩) ?_ ?_
      rotate_left
      · intro w'
        go_simp
        with_reducible rfl
      rotate_left
      · simp only [Act.put, List.setIfInBounds_toArray, List.set_cons_zero, List.set_cons_succ, i64_w, i32_w]
        rfl
      refine pure_ (i := 49) (N := some 6) (v := ?_) (a' := ?_) #[true, true, true, true, true, true, true, true, true, true, true, true, true, true, true, true, true, true, true, true, true, true, true, true, true, true, true, true, true, true, true, true, true, true, true, true, true, true, true, true, true, true, true, true, true, true, true, true, true, true] rfl rfl (any_of HT_.out (by kernel_rfl)) (fun _ _ _ h => h) (Or.inl ⟨by rfl, ?_⟩) ?_ ?_
      rotate_left
      · intro w'
        go_simp
        with_reducible rfl
      rotate_left
      · simp only [Act.put, List.setIfInBounds_toArray, List.set_cons_zero, List.set_cons_succ, i64_w, i32_w]
        rfl
      refine done_ (done_of HT_.out (by kernel_rfl)) ?_
      go_wp2
      go_ret
      exact ⟨rfl, HB.out⟩
  · rw [if_neg e1] at h
    have mb := bne_iff_ne.mpr e1
    clear e1
    obtain rfl := Option.some.inj h
    clear h
    have T1 : True := trivial
    have HB0 := Aside0.mk (show Below w.heap.size w (((w.alloc (.cells #[.int .i64 t, .int .i64 b, .int .i64 i, .int .i64 f, .int .i64 c] 23)).alloc (.cells #[.int .u8 p, .int .u8 q] 32)).alloc (.cells #[.int .u16 x, .int .u16 y] 33)) from by repeat (first | exact Below.refl _ _ | apply below_alloc))
    have BK0_0 := Aside0.mk (show (((w.alloc (.cells #[.int .i64 t, .int .i64 b, .int .i64 i, .int .i64 f, .int .i64 c] 23)).alloc (.cells #[.int .u8 p, .int .u8 q] 32)).alloc (.cells #[.int .u16 x, .int .u16 y] 33)).heap[w.heap.size]? = some (.cells #[.int .i64 t, .int .i64 b, .int .i64 i, .int .i64 f, .int .i64 c] 23 (0, 0)) from (blk_alloc (blk_alloc (by simpa using blk_new w (.cells #[.int .i64 t, .int .i64 b, .int .i64 i, .int .i64 f, .int .i64 c] 23)) _) _))
    have BK1_0 := Aside0.mk (show (((w.alloc (.cells #[.int .i64 t, .int .i64 b, .int .i64 i, .int .i64 f, .int .i64 c] 23)).alloc (.cells #[.int .u8 p, .int .u8 q] 32)).alloc (.cells #[.int .u16 x, .int .u16 y] 33)).heap[(w.heap.size + 1)]? = some (.cells #[.int .u8 p, .int .u8 q] 32 (0, 0)) from (blk_alloc (by simpa using blk_new (w.alloc (.cells #[.int .i64 t, .int .i64 b, .int .i64 i, .int .i64 f, .int .i64 c] 23)) (.cells #[.int .u8 p, .int .u8 q] 32)) _))
    have BK2_0 := Aside0.mk (show (((w.alloc (.cells #[.int .i64 t, .int .i64 b, .int .i64 i, .int .i64 f, .int .i64 c] 23)).alloc (.cells #[.int .u8 p, .int .u8 q] 32)).alloc (.cells #[.int .u16 x, .int .u16 y] 33)).heap[(w.heap.size + 2)]? = some (.cells #[.int .u16 x, .int .u16 y] 33 (0, 0)) from (by simpa using blk_new ((w.alloc (.cells #[.int .i64 t, .int .i64 b, .int .i64 i, .int .i64 f, .int .i64 c] 23)).alloc (.cells #[.int .u8 p, .int .u8 q] 32)) (.cells #[.int .u16 x, .int .u16 y] 33)))
    go_enter Try.func6, Try.ntmps6
    go_wp2_with (first | (go_at_call 8; have _t := T1; clear T1 _t; (with_reducible refine (corrielaw05_awake.calls true _ rfl).mono ?_); rintro e w1 ⟨rfl, hb1⟩; have HB1 := Aside0.mk (below_step HB0.out hb1); have BK0_1 := Aside0.mk (blk_below BK0_0.out hb1); clear BK0_0; have BK1_1 := Aside0.mk (blk_below BK1_0.out hb1); clear BK1_0; have BK2_1 := Aside0.mk (blk_below BK2_0.out hb1); clear BK2_0; clear HB0; have c1_0_0 : w1.cell? ⟨w.heap.size, 0, none⟩ = some (.int .i64 t) := (blk_cell BK0_1.out 0).trans rfl; have c1_0_1 : w1.cell? ⟨w.heap.size, 1, none⟩ = some (.int .i64 b) := (blk_cell BK0_1.out 1).trans rfl; have c1_0_2 : w1.cell? ⟨w.heap.size, 2, none⟩ = some (.int .i64 i) := (blk_cell BK0_1.out 2).trans rfl; have c1_0_3 : w1.cell? ⟨w.heap.size, 3, none⟩ = some (.int .i64 f) := (blk_cell BK0_1.out 3).trans rfl; have c1_0_4 : w1.cell? ⟨w.heap.size, 4, none⟩ = some (.int .i64 c) := (blk_cell BK0_1.out 4).trans rfl; have c1_1_0 : w1.cell? ⟨(w.heap.size + 1), 0, none⟩ = some (.int .u8 p) := (blk_cell BK1_1.out 0).trans rfl; have c1_1_1 : w1.cell? ⟨(w.heap.size + 1), 1, none⟩ = some (.int .u8 q) := (blk_cell BK1_1.out 1).trans rfl; have c1_2_0 : w1.cell? ⟨(w.heap.size + 2), 0, none⟩ = some (.int .u16 x) := (blk_cell BK2_1.out 0).trans rfl; have c1_2_1 : w1.cell? ⟨(w.heap.size + 2), 1, none⟩ = some (.int .u16 y) := (blk_cell BK2_1.out 1).trans rfl; have z1_0 : w.heap.size < w1.heap.size := blk_lt BK0_1.out; have z1_1 : (w.heap.size + 1) < w1.heap.size := blk_lt BK1_1.out; have z1_2 : (w.heap.size + 2) < w1.heap.size := blk_lt BK2_1.out; clear hb1; have T2 : True := trivial) | (go_at_call 25; have _t := T2; clear T2 _t; (with_reducible refine (corrieref04_May.calls k t b i f c m _ Hm.out).mono ?_); rintro e w2 ⟨rfl, hb2⟩; have HB2 := Aside0.mk (below_step HB1.out hb2); have BK0_2 := Aside0.mk (blk_below BK0_1.out hb2); clear BK0_1; have BK1_2 := Aside0.mk (blk_below BK1_1.out hb2); clear BK1_1; have BK2_2 := Aside0.mk (blk_below BK2_1.out hb2); clear BK2_1; clear HB1; (try clear c1_0_0 c1_0_1 c1_0_2 c1_0_3 c1_0_4 c1_1_0 c1_1_1 c1_2_0 c1_2_1 z1_0 z1_1 z1_2); have c2_0_0 : w2.cell? ⟨w.heap.size, 0, none⟩ = some (.int .i64 t) := (blk_cell BK0_2.out 0).trans rfl; have c2_0_1 : w2.cell? ⟨w.heap.size, 1, none⟩ = some (.int .i64 b) := (blk_cell BK0_2.out 1).trans rfl; have c2_0_2 : w2.cell? ⟨w.heap.size, 2, none⟩ = some (.int .i64 i) := (blk_cell BK0_2.out 2).trans rfl; have c2_0_3 : w2.cell? ⟨w.heap.size, 3, none⟩ = some (.int .i64 f) := (blk_cell BK0_2.out 3).trans rfl; have c2_0_4 : w2.cell? ⟨w.heap.size, 4, none⟩ = some (.int .i64 c) := (blk_cell BK0_2.out 4).trans rfl; have c2_1_0 : w2.cell? ⟨(w.heap.size + 1), 0, none⟩ = some (.int .u8 p) := (blk_cell BK1_2.out 0).trans rfl; have c2_1_1 : w2.cell? ⟨(w.heap.size + 1), 1, none⟩ = some (.int .u8 q) := (blk_cell BK1_2.out 1).trans rfl; have c2_2_0 : w2.cell? ⟨(w.heap.size + 2), 0, none⟩ = some (.int .u16 x) := (blk_cell BK2_2.out 0).trans rfl; have c2_2_1 : w2.cell? ⟨(w.heap.size + 2), 1, none⟩ = some (.int .u16 y) := (blk_cell BK2_2.out 1).trans rfl; have z2_0 : w.heap.size < w2.heap.size := blk_lt BK0_2.out; have z2_1 : (w.heap.size + 1) < w2.heap.size := blk_lt BK1_2.out; have z2_2 : (w.heap.size + 2) < w2.heap.size := blk_lt BK2_2.out; clear hb2; have T3 : True := trivial))
    go_wp2
    go_ret
    exact ⟨rfl, HB2.out⟩


end Go.Proofs.Ytpcmoclohepdiae.PLayoutApart
