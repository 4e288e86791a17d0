-- Written by a program of this session: a variant of the print that takes proofs by hand (wip/tools/mkprint.py)
import Derived.Test.YtpcmoclohepdiabPBoundRisesx0
import Derived.Test.YtpcmoclohepdiabPBoundRisesx1
import Derived.Test.YtpcmoclohepdiabPBoundRisesx3
namespace Go.Proofs.Ytpcmoclohepdiab.PBoundRises
open Go.RowKit Go.Proofs.YtpcmoclohepdiabW.PrintWords Go.Proofs.YtpcmoclohepdiabW.PrintLast Go.Proofs.YtpcmoclohepdiabW.PrintMore
attribute [local go_sem] max2_int min2_int max_two min_two max_three min_three max_four min_four   -- for this text's walks alone
set_option linter.unusedVariables false
set_option linter.unusedSimpArgs false

/-! ### corrielaw23_BoundRises: function 5 (by hand) -/
def corrielaw23_BoundRises.T10 : Bool × List (List Nat × List Nat) := (true, [([], []), ([0], [0]), ([1], [1]), ([1], [1]), ([1], [1]), ([2, 3, 4, 1, 1], [1, 2, 3, 4]), ([5, 1], [1, 5]), ([1, 6], [1, 6]), ([7, 5], [7]), ([8], [8]), ([8], [8]), ([8], [8]), ([9, 10, 11, 8, 8], [8, 9, 10, 11]), ([12, 8], [8, 12]), ([8, 13], [8, 13]), ([14, 12], [14]), ([15], [15]), ([15], [15]), ([15], [15]), ([16, 17, 18, 15, 15], [15, 16, 17, 18]), ([15], [15]), ([15], [15]), ([15], [15]), ([20, 21, 22, 19, 15], [15, 20, 21, 22]), ([19, 23, 15], [15, 19, 23]), ([15, 24], [15, 24]), ([25, 23], [25]), ([26], [26]), ([26], [26]), ([26], [26]), ([27, 28, 29, 26, 26], [26, 27, 28, 29]), ([26], [26]), ([26], [26]), ([26], [26]), ([31, 32, 33, 30, 26], [26, 31, 32, 33]), ([30, 34, 26], [26, 30, 34]), ([26, 35], [26, 35]), ([36, 34, 0, 1, 2, 3, 4, 5, 6, 7, 8, 9, 10, 11, 12, 13, 14, 15, 16, 17, 18, 19, 20, 21, 22, 23, 24, 25, 26, 27, 28, 29, 30, 31, 32, 33, 34, 35, 36], [36])])
def corrielaw23_BoundRises.B10 : List Nat := [0, 1, 3, 3, 3, 31, 63, 127, 255, 511, 511, 511, 4095, 8191, 16383, 32767, 65535, 65535, 65535, 524287, 65535, 65535, 65535, 8388607, 16777215, 33554431, 67108863, 134217727, 134217727, 134217727, 1073741823, 134217727, 134217727, 134217727, 17179869183, 34359738367, 68719476735, 137438953471]
theorem corrielaw23_BoundRises.tab10 : rtab .any (opsOf Try.f5 10) = corrielaw23_BoundRises.T10 := by kernel_rfl
theorem corrielaw23_BoundRises.bits10 : waitsOk corrielaw23_BoundRises.T10.2 corrielaw23_BoundRises.B10 = true := by kernel_rfl
def corrielaw23_BoundRises.f (k : Nat) (t b i f c n0 n1 p q : Int) : Option Bool := (corrieref04_May.f k t b i f c).bind fun m => if m = 0 then ((bound_Point.f k t b i f c (wrap64 n0) (wrap64 n1)).bind fun v0 => (bound_Scan.f k t b i f c (wrap64 n0) (wrap64 n1)).bind fun v1 => (bound_Point.f k (if 8 < wrap64 (t + 1) then 8 else wrap64 (t + 1)) b i f c (wrap64 (wrap64 n0 + wrap64 p)) (wrap64 (wrap64 n1 + wrap64 q))).bind fun v2 => (bound_Scan.f k (if 8 < wrap64 (t + 1) then 8 else wrap64 (t + 1)) b i f c (wrap64 (wrap64 n0 + wrap64 p)) (wrap64 (wrap64 n1 + wrap64 q))).bind fun v3 => if 0 < v0 ∧ 0 < v1 ∧ v0 ≤ v2 ∧ v1 ≤ v3 then some true else none) else some true
set_option maxHeartbeats 8000000 in
set_option maxRecDepth 100000 in
theorem corrielaw23_BoundRises.law (k : Nat) (t b i f c n0 n1 p q : Int) (r : Bool) (w : World) (h : corrielaw23_BoundRises.f k t b i f c n0 n1 p q = some r) :
    Calls Try.prog 5 #[.agg #[.int .i64 t, .int .i64 b, .int .i64 i, .int .i64 f, .int .i64 c], .agg #[.int .u16 n0, .int .u16 n1], .agg #[.int .u16 p, .int .u16 q]] w fun e w' => e = .returned (.bool r) ∧ Below w.heap.size w w' := by
  obtain ⟨m, hm, h⟩ := Option.bind_eq_some_iff.mp h
  have Hm := Aside0.mk hm
  clear hm
  have HB := Aside0.mk (Below.refl w.heap.size w)
  by_cases c1 : m = 0
  · subst c1
    have HH := Aside0.mk h
    clear h
    go_enter Try.func5, Try.ntmps5
    go_wp2_with (first | ((with_reducible refine gate_dst (N := 3) rfl ?_); refine box_event ?hg (N := 3) ?hd (cs := #[.int .i64 t, .int .i64 b, .int .i64 i, .int .i64 f, .int .i64 c]) (t := 23) ?hr ?_; (case hd => rfl); (case hg => rfl); (case hr => first | (go_simp; done) | (go_simp; rfl)); intro gc hg wb_gc hbox hb; have BKgc := Aside0.mk hbox; have n0_ := Aside0.mk (below_step HB.out hb); clear HB; have HB := n0_; clear n0_; clear hb hbox hg) | ((with_reducible refine gate_dst (N := 4) rfl ?_); refine box_event ?hg (N := 4) ?hd (cs := #[.int .u16 n0, .int .u16 n1]) (t := 44) ?hr ?_; (case hd => rfl); (case hg => rfl); (case hr => first | (go_simp; done) | (go_simp; rfl)); intro gn hg wb_gn hbox hb; have BKgn := Aside0.mk hbox; have n_BKgc := Aside0.mk (blk_below (g := gc) (o := .cells #[.int .i64 t, .int .i64 b, .int .i64 i, .int .i64 f, .int .i64 c] 23 (0, 0)) BKgc.out hb); clear BKgc; have BKgc := n_BKgc; clear n_BKgc; have n0_ := Aside0.mk (below_step HB.out hb); clear HB; have HB := n0_; clear n0_; clear hb hbox hg) | ((with_reducible refine gate_dst (N := 5) rfl ?_); refine box_event ?hg (N := 5) ?hd (cs := #[.int .u16 p, .int .u16 q]) (t := 44) ?hr ?_; (case hd => rfl); (case hg => rfl); (case hr => first | (go_simp; done) | (go_simp; rfl)); intro gm hg wb_gm hbox hb; have BKgm := Aside0.mk hbox; have n_BKgc := Aside0.mk (blk_below (g := gc) (o := .cells #[.int .i64 t, .int .i64 b, .int .i64 i, .int .i64 f, .int .i64 c] 23 (0, 0)) BKgc.out hb); clear BKgc; have BKgc := n_BKgc; clear n_BKgc; have n_BKgn := Aside0.mk (blk_below (g := gn) (o := .cells #[.int .u16 n0, .int .u16 n1] 44 (0, 0)) BKgn.out hb); clear BKgn; have BKgn := n_BKgn; clear n_BKgn; have n0_ := Aside0.mk (below_step HB.out hb); clear HB; have HB := n0_; clear n0_; clear hb hbox hg) | (go_at_call 8; (with_reducible refine (corrielaw23_awake.calls true _ rfl).mono ?_); rintro e w1 ⟨rfl, hb⟩; have n_BKgc := Aside0.mk (blk_below (g := gc) (o := .cells #[.int .i64 t, .int .i64 b, .int .i64 i, .int .i64 f, .int .i64 c] 23 (0, 0)) BKgc.out hb); clear BKgc; have BKgc := n_BKgc; clear n_BKgc; have n_BKgn := Aside0.mk (blk_below (g := gn) (o := .cells #[.int .u16 n0, .int .u16 n1] 44 (0, 0)) BKgn.out hb); clear BKgn; have BKgn := n_BKgn; clear n_BKgn; have n_BKgm := Aside0.mk (blk_below (g := gm) (o := .cells #[.int .u16 p, .int .u16 q] 44 (0, 0)) BKgm.out hb); clear BKgm; have BKgm := n_BKgm; clear n_BKgm; have n0_ := Aside0.mk (below_step HB.out hb); clear HB hb; have HB := n0_; clear n0_; have cw1gc_0 : w1.cell? ⟨gc, 0, none⟩ = some (.int .i64 t) := (blk_cell BKgc.out 0).trans rfl; have cw1gc_1 : w1.cell? ⟨gc, 1, none⟩ = some (.int .i64 b) := (blk_cell BKgc.out 1).trans rfl; have cw1gc_2 : w1.cell? ⟨gc, 2, none⟩ = some (.int .i64 i) := (blk_cell BKgc.out 2).trans rfl; have cw1gc_3 : w1.cell? ⟨gc, 3, none⟩ = some (.int .i64 f) := (blk_cell BKgc.out 3).trans rfl; have cw1gc_4 : w1.cell? ⟨gc, 4, none⟩ = some (.int .i64 c) := (blk_cell BKgc.out 4).trans rfl; have cw1gn_0 : w1.cell? ⟨gn, 0, none⟩ = some (.int .u16 n0) := (blk_cell BKgn.out 0).trans rfl; have cw1gn_1 : w1.cell? ⟨gn, 1, none⟩ = some (.int .u16 n1) := (blk_cell BKgn.out 1).trans rfl; have cw1gm_0 : w1.cell? ⟨gm, 0, none⟩ = some (.int .u16 p) := (blk_cell BKgm.out 0).trans rfl; have cw1gm_1 : w1.cell? ⟨gm, 1, none⟩ = some (.int .u16 q) := (blk_cell BKgm.out 1).trans rfl; have zw1gc : gc < w1.heap.size := blk_lt BKgc.out; have zw1gn : gn < w1.heap.size := blk_lt BKgn.out; have zw1gm : gm < w1.heap.size := blk_lt BKgm.out) | (go_at_call 9; (with_reducible refine (corrieref04_May.calls k t b i f c 0 _ Hm.out).mono ?_); rintro e w2 ⟨rfl, hb⟩; have n_BKgc := Aside0.mk (blk_below (g := gc) (o := .cells #[.int .i64 t, .int .i64 b, .int .i64 i, .int .i64 f, .int .i64 c] 23 (0, 0)) BKgc.out hb); clear BKgc; have BKgc := n_BKgc; clear n_BKgc; have n_BKgn := Aside0.mk (blk_below (g := gn) (o := .cells #[.int .u16 n0, .int .u16 n1] 44 (0, 0)) BKgn.out hb); clear BKgn; have BKgn := n_BKgn; clear n_BKgn; have n_BKgm := Aside0.mk (blk_below (g := gm) (o := .cells #[.int .u16 p, .int .u16 q] 44 (0, 0)) BKgm.out hb); clear BKgm; have BKgm := n_BKgm; clear n_BKgm; have n0_ := Aside0.mk (below_step HB.out hb); clear HB hb; have HB := n0_; clear n0_; have cw2gc_0 : w2.cell? ⟨gc, 0, none⟩ = some (.int .i64 t) := (blk_cell BKgc.out 0).trans rfl; have cw2gc_1 : w2.cell? ⟨gc, 1, none⟩ = some (.int .i64 b) := (blk_cell BKgc.out 1).trans rfl; have cw2gc_2 : w2.cell? ⟨gc, 2, none⟩ = some (.int .i64 i) := (blk_cell BKgc.out 2).trans rfl; have cw2gc_3 : w2.cell? ⟨gc, 3, none⟩ = some (.int .i64 f) := (blk_cell BKgc.out 3).trans rfl; have cw2gc_4 : w2.cell? ⟨gc, 4, none⟩ = some (.int .i64 c) := (blk_cell BKgc.out 4).trans rfl; have cw2gn_0 : w2.cell? ⟨gn, 0, none⟩ = some (.int .u16 n0) := (blk_cell BKgn.out 0).trans rfl; have cw2gn_1 : w2.cell? ⟨gn, 1, none⟩ = some (.int .u16 n1) := (blk_cell BKgn.out 1).trans rfl; have cw2gm_0 : w2.cell? ⟨gm, 0, none⟩ = some (.int .u16 p) := (blk_cell BKgm.out 0).trans rfl; have cw2gm_1 : w2.cell? ⟨gm, 1, none⟩ = some (.int .u16 q) := (blk_cell BKgm.out 1).trans rfl; have zw2gc : gc < w2.heap.size := blk_lt BKgc.out; have zw2gn : gn < w2.heap.size := blk_lt BKgn.out; have zw2gm : gm < w2.heap.size := blk_lt BKgm.out))
    · have hh := HH.out
      clear HH BKgn BKgm
      simp only [if_true, if_pos (show 8 < wrap64 (t + 1) from by omega)] at hh
      obtain ⟨v0, hv0, hh⟩ := Option.bind_eq_some_iff.mp hh
      have Hv0 := Aside0.mk hv0
      clear hv0
      obtain ⟨v1, hv1, hh⟩ := Option.bind_eq_some_iff.mp hh
      have Hv1 := Aside0.mk hv1
      clear hv1
      obtain ⟨v2, hv2, hh⟩ := Option.bind_eq_some_iff.mp hh
      have Hv2 := Aside0.mk hv2
      clear hv2
      obtain ⟨v3, hv3, hh⟩ := Option.bind_eq_some_iff.mp hh
      have Hv3 := Aside0.mk hv3
      clear hv3
      by_cases cc : 0 < v0 ∧ 0 < v1 ∧ v0 ≤ v2 ∧ v1 ≤ v3
      rotate_left
      · rw [if_neg cc] at hh
        cases hh
      rw [if_pos cc] at hh
      obtain rfl := Option.some.inj hh
      obtain ⟨d0, d1, d2, d3⟩ := cc
      clear hh
      have D0 : decide (0 < v0) = true := decide_eq_true d0
      have D1 : decide (0 < v1) = true := decide_eq_true d1
      have D2 : decide (v0 ≤ v2) = true := decide_eq_true d2
      have D3 : decide (v1 ≤ v3) = true := decide_eq_true d3
      clear d0 d1 d2 d3
      have BKgd := Aside0.mk (blk_new w2 (.cells #[.int .i64 8, .int .i64 b, .int .i64 i, .int .i64 f, .int .i64 c] 23))
      have n_ := Aside0.mk (blk_alloc (g := gc) (o := .cells #[.int .i64 t, .int .i64 b, .int .i64 i, .int .i64 f, .int .i64 c] 23 (0, 0)) BKgc.out (.cells #[.int .i64 8, .int .i64 b, .int .i64 i, .int .i64 f, .int .i64 c] 23))
      clear BKgc
      have BKgc := n_
      clear n_
      have n_ := Aside0.mk (below_alloc HB.out (.cells #[.int .i64 8, .int .i64 b, .int .i64 i, .int .i64 f, .int .i64 c] 23))
      clear HB
      have HB := n_
      clear n_
      have n_BKgc := Aside0.mk (blk_drew (g := gc) (o := .cells #[.int .i64 t, .int .i64 b, .int .i64 i, .int .i64 f, .int .i64 c] 23 (0, 0)) BKgc.out)
      clear BKgc
      have BKgc := n_BKgc
      clear n_BKgc
      have n_BKgd := Aside0.mk (blk_drew (g := w2.heap.size) (o := .cells #[.int .i64 8, .int .i64 b, .int .i64 i, .int .i64 f, .int .i64 c] 23 (0, 0)) BKgd.out)
      clear BKgd
      have BKgd := n_BKgd
      clear n_BKgd
      have n1_ := Aside0.mk (below_drew1 HB.out)
      clear HB
      have HB := n1_
      clear n1_
      refine start_ (n := 38) (S := fun w' => w'.cell? ⟨gc, 0, none⟩ = some (.int .i64 t) ∧ w'.cell? ⟨gc, 1, none⟩ = some (.int .i64 b) ∧ w'.cell? ⟨gc, 2, none⟩ = some (.int .i64 i) ∧ w'.cell? ⟨gc, 3, none⟩ = some (.int .i64 f) ∧ w'.cell? ⟨gc, 4, none⟩ = some (.int .i64 c) ∧ w'.cell? ⟨w2.heap.size, 0, none⟩ = some (.int .i64 8) ∧ w'.cell? ⟨w2.heap.size, 1, none⟩ = some (.int .i64 b) ∧ w'.cell? ⟨w2.heap.size, 2, none⟩ = some (.int .i64 i) ∧ w'.cell? ⟨w2.heap.size, 3, none⟩ = some (.int .i64 f) ∧ w'.cell? ⟨w2.heap.size, 4, none⟩ = some (.int .i64 c)) (ds := []) #[false, false, false, false, false, false, false, false, false, false, false, false, false, false, false, false, false, false, false, false, false, false, false, false, false, false, false, false, false, false, false, false, false, false, false, false, false, false] (by kernel_rfl) rfl rfl ⟨(blk_cell BKgc.out 0).trans rfl, (blk_cell BKgc.out 1).trans rfl, (blk_cell BKgc.out 2).trans rfl, (blk_cell BKgc.out 3).trans rfl, (blk_cell BKgc.out 4).trans rfl, (blk_cell BKgd.out 0).trans rfl, (blk_cell BKgd.out 1).trans rfl, (blk_cell BKgd.out 2).trans rfl, (blk_cell BKgd.out 3).trans rfl, (blk_cell BKgd.out 4).trans rfl⟩ (fun hHeld => ?_); refine with_tabW corrielaw23_BoundRises.tab10 corrielaw23_BoundRises.bits10 (fun HT_ HW_ => ?_)
      generalize (w2.alloc (.cells #[.int .i64 8, .int .i64 b, .int .i64 i, .int .i64 f, .int .i64 c] 23)).drew = W1 at BKgc BKgd HB hHeld ⊢
      refine pure_ (i := 0) (N := some 40) (v := ?_) (a' := ?_) #[true, false, false, false, false, false, false, false, false, false, false, false, false, false, false, false, false, false, false, false, false, false, false, false, false, false, false, false, false, false, false, false, false, false, false, false, false, false] rfl rfl (any_of HT_.out (by kernel_rfl)) (fun _ _ _ h => h) (Or.inl ⟨by rfl, ?_⟩) ?_ ?_
      rotate_left
      · intro w'
        go_simp
        with_reducible rfl
      rotate_left
      · simp only [Act.put, List.setIfInBounds_toArray, List.set_cons_zero, List.set_cons_succ, i64_w, i32_w]
        rfl
      refine pure_ (i := 1) (N := some 41) (v := ?_) (a' := ?_) #[true, true, false, false, false, false, false, false, false, false, false, false, false, false, false, false, false, false, false, false, false, false, false, false, false, false, false, false, false, false, false, false, false, false, false, false, false, false] rfl rfl (any_of HT_.out (by kernel_rfl)) (fun _ _ _ h => h) (Or.inl ⟨by rfl, ?_⟩) ?_ ?_
      rotate_left
      · intro w'
        go_simp
        with_reducible rfl
      rotate_left
      · simp only [Act.put, List.setIfInBounds_toArray, List.set_cons_zero, List.set_cons_succ, i64_w, i32_w]
        rfl
      refine take_ (i := 2) (N := some 42) (v := ?_) (a' := ?_) #[true, true, true, false, false, false, false, false, false, false, false, false, false, false, false, false, false, false, false, false, false, false, false, false, false, false, false, false, false, false, false, false, false, false, false, false, false, false] rfl rfl (take_ofW HT_.out HW_.out (by kernel_rfl)) (fun _ _ _ h => h) (Or.inl ⟨by rfl, ?_⟩) hHeld ?_ ?_
      rotate_left
      · rintro w' ⟨s0, s1, s2, s3, s4, s5, s6, s7, s8, s9⟩
        go_simp
        with_reducible rfl
      rotate_left
      · simp only [Act.put, List.setIfInBounds_toArray, List.set_cons_zero, List.set_cons_succ, i64_w, i32_w]
        rfl
      refine pure_ (i := 3) (N := some 43) (v := ?_) (a' := ?_) #[true, true, true, true, false, false, false, false, false, false, false, false, false, false, false, false, false, false, false, false, false, false, false, false, false, false, false, false, false, false, false, false, false, false, false, false, false, false] rfl rfl (any_of HT_.out (by kernel_rfl)) (fun _ _ _ h => h) (Or.inl ⟨by rfl, ?_⟩) ?_ ?_
      rotate_left
      · intro w'
        go_simp
        with_reducible rfl
      rotate_left
      · simp only [Act.put, List.setIfInBounds_toArray, List.set_cons_zero, List.set_cons_succ, i64_w, i32_w]
        rfl
      refine pure_ (i := 4) (N := some 44) (v := ?_) (a' := ?_) #[true, true, true, true, true, false, false, false, false, false, false, false, false, false, false, false, false, false, false, false, false, false, false, false, false, false, false, false, false, false, false, false, false, false, false, false, false, false] rfl rfl (any_of HT_.out (by kernel_rfl)) (fun _ _ _ h => h) (Or.inl ⟨by rfl, ?_⟩) ?_ ?_
      rotate_left
      · intro w'
        go_simp
        with_reducible rfl
      rotate_left
      · simp only [Act.put, List.setIfInBounds_toArray, List.set_cons_zero, List.set_cons_succ, i64_w, i32_w]
        rfl
      refine one_ (i := 5) (N := some 45) #[true, true, true, true, true, true, false, false, false, false, false, false, false, false, false, false, false, false, false, false, false, false, false, false, false, false, false, false, false, false, false, false, false, false, false, false, false, false] rfl rfl (one_of HT_.out (by kernel_rfl)) (by decide) (fun K hK => ?_)
      refine goes_ Try.func10 (by kernel_rfl) rfl #[.agg #[.int .i64 t, .int .i64 b, .int .i64 i, .int .i64 f, .int .i64 c], .int .i64 (wrap64 n0), .int .i64 (wrap64 n1)] (by rfl) rfl rfl (by (try simp only [List.map_toArray, List.map_cons, List.map_nil]); first | done | rfl) ?_
      with_reducible refine (bound_Point.calls k t b i f c (wrap64 n0) (wrap64 n1) v0 _ Hv0.out).mono ?_
      rintro e w3 ⟨rfl, hb⟩
      refine ⟨_, rfl, ?_⟩
      have n_BKgc := Aside0.mk (blk_below (g := gc) (o := .cells #[.int .i64 t, .int .i64 b, .int .i64 i, .int .i64 f, .int .i64 c] 23 (0, 0)) BKgc.out hb)
      clear BKgc
      have BKgc := n_BKgc
      clear n_BKgc
      have n_BKgd := Aside0.mk (blk_below (g := w2.heap.size) (o := .cells #[.int .i64 8, .int .i64 b, .int .i64 i, .int .i64 f, .int .i64 c] 23 (0, 0)) BKgd.out hb)
      clear BKgd
      have BKgd := n_BKgd
      clear n_BKgd
      have n1_ := Aside0.mk (below_step HB.out hb)
      clear HB hb
      have HB := n1_
      clear n1_
      refine hK.out _ _ ⟨(blk_cell BKgc.out 0).trans rfl, (blk_cell BKgc.out 1).trans rfl, (blk_cell BKgc.out 2).trans rfl, (blk_cell BKgc.out 3).trans rfl, (blk_cell BKgc.out 4).trans rfl, (blk_cell BKgd.out 0).trans rfl, (blk_cell BKgd.out 1).trans rfl, (blk_cell BKgd.out 2).trans rfl, (blk_cell BKgd.out 3).trans rfl, (blk_cell BKgd.out 4).trans rfl⟩ (fun hHeld => ?_)
      clear hK K
      refine norm_ (a' := ?_) ?_ ?_
      rotate_left
      · show Act.put _ (some 45) _ = _
        simp only [Act.put, List.setIfInBounds_toArray, List.set_cons_zero, List.set_cons_succ, i64_w, i32_w]
        rfl
      refine pure_ (i := 6) (N := some 46) (v := ?_) (a' := ?_) #[true, true, true, true, true, true, true, false, false, false, false, false, false, false, false, false, false, false, false, false, false, false, false, false, false, false, false, false, false, false, false, false, false, false, false, false, false, false] rfl rfl (any_of HT_.out (by kernel_rfl)) (fun _ _ _ h => h) (Or.inl ⟨by rfl, ?_⟩) ?_ ?_
      rotate_left
      · intro w'
        go_simp
        with_reducible rfl
      rotate_left
      · simp only [Act.put, List.setIfInBounds_toArray, List.set_cons_zero, List.set_cons_succ, i64_w, i32_w]
        rfl
      refine pure_ (i := 7) (N := some 47) (v := ?_) (a' := ?_) #[true, true, true, true, true, true, true, true, false, false, false, false, false, false, false, false, false, false, false, false, false, false, false, false, false, false, false, false, false, false, false, false, false, false, false, false, false, false] rfl rfl (any_of HT_.out (by kernel_rfl)) (fun _ _ _ h => h) (Or.inl ⟨by rfl, ?_⟩) ?_ ?_
      rotate_left
      · intro w'
        go_simp
        with_reducible rfl
      rotate_left
      · simp only [Act.put, List.setIfInBounds_toArray, List.set_cons_zero, List.set_cons_succ, i64_w, i32_w]
        rfl
      refine pure_ (i := 8) (N := some 48) (v := ?_) (a' := ?_) #[true, true, true, true, true, true, true, true, true, false, false, false, false, false, false, false, false, false, false, false, false, false, false, false, false, false, false, false, false, false, false, false, false, false, false, false, false, false] rfl rfl (any_of HT_.out (by kernel_rfl)) (fun _ _ _ h => h) (Or.inl ⟨by rfl, ?_⟩) ?_ ?_
      rotate_left
      · intro w'
        go_simp
        with_reducible rfl
      rotate_left
      · simp only [Act.put, List.setIfInBounds_toArray, List.set_cons_zero, List.set_cons_succ, i64_w, i32_w]
        rfl
      refine take_ (i := 9) (N := some 49) (v := ?_) (a' := ?_) #[true, true, true, true, true, true, true, true, true, true, false, false, false, false, false, false, false, false, false, false, false, false, false, false, false, false, false, false, false, false, false, false, false, false, false, false, false, false] rfl rfl (take_ofW HT_.out HW_.out (by kernel_rfl)) (fun _ _ _ h => h) (Or.inl ⟨by rfl, ?_⟩) hHeld ?_ ?_
      rotate_left
      · rintro w' ⟨s0, s1, s2, s3, s4, s5, s6, s7, s8, s9⟩
        go_simp
        with_reducible rfl
      rotate_left
      · simp only [Act.put, List.setIfInBounds_toArray, List.set_cons_zero, List.set_cons_succ, i64_w, i32_w]
        rfl
      refine pure_ (i := 10) (N := some 50) (v := ?_) (a' := ?_) #[true, true, true, true, true, true, true, true, true, true, true, false, false, false, false, false, false, false, false, false, false, false, false, false, false, false, false, false, false, false, false, false, false, false, false, false, false, false] rfl rfl (any_of HT_.out (by kernel_rfl)) (fun _ _ _ h => h) (Or.inl ⟨by rfl, ?_⟩) ?_ ?_
      rotate_left
      · intro w'
        go_simp
        with_reducible rfl
      rotate_left
      · simp only [Act.put, List.setIfInBounds_toArray, List.set_cons_zero, List.set_cons_succ, i64_w, i32_w]
        rfl
      refine pure_ (i := 11) (N := some 51) (v := ?_) (a' := ?_) #[true, true, true, true, true, true, true, true, true, true, true, true, false, false, false, false, false, false, false, false, false, false, false, false, false, false, false, false, false, false, false, false, false, false, false, false, false, false] rfl rfl (any_of HT_.out (by kernel_rfl)) (fun _ _ _ h => h) (Or.inl ⟨by rfl, ?_⟩) ?_ ?_
      rotate_left
      · intro w'
        go_simp
        with_reducible rfl
      rotate_left
      · simp only [Act.put, List.setIfInBounds_toArray, List.set_cons_zero, List.set_cons_succ, i64_w, i32_w]
        rfl
      refine one_ (i := 12) (N := some 52) #[true, true, true, true, true, true, true, true, true, true, true, true, true, false, false, false, false, false, false, false, false, false, false, false, false, false, false, false, false, false, false, false, false, false, false, false, false, false] rfl rfl (one_of HT_.out (by kernel_rfl)) (by decide) (fun K hK => ?_)
      refine goes_ Try.func12 (by kernel_rfl) rfl #[.agg #[.int .i64 t, .int .i64 b, .int .i64 i, .int .i64 f, .int .i64 c], .int .i64 (wrap64 n0), .int .i64 (wrap64 n1)] (by rfl) rfl rfl (by (try simp only [List.map_toArray, List.map_cons, List.map_nil]); first | done | rfl) ?_
      with_reducible refine (bound_Scan.calls k t b i f c (wrap64 n0) (wrap64 n1) v1 _ Hv1.out).mono ?_
      rintro e w4 ⟨rfl, hb⟩
      refine ⟨_, rfl, ?_⟩
      have n_BKgc := Aside0.mk (blk_below (g := gc) (o := .cells #[.int .i64 t, .int .i64 b, .int .i64 i, .int .i64 f, .int .i64 c] 23 (0, 0)) BKgc.out hb)
      clear BKgc
      have BKgc := n_BKgc
      clear n_BKgc
      have n_BKgd := Aside0.mk (blk_below (g := w2.heap.size) (o := .cells #[.int .i64 8, .int .i64 b, .int .i64 i, .int .i64 f, .int .i64 c] 23 (0, 0)) BKgd.out hb)
      clear BKgd
      have BKgd := n_BKgd
      clear n_BKgd
      have n1_ := Aside0.mk (below_step HB.out hb)
      clear HB hb
      have HB := n1_
      clear n1_
      refine hK.out _ _ ⟨(blk_cell BKgc.out 0).trans rfl, (blk_cell BKgc.out 1).trans rfl, (blk_cell BKgc.out 2).trans rfl, (blk_cell BKgc.out 3).trans rfl, (blk_cell BKgc.out 4).trans rfl, (blk_cell BKgd.out 0).trans rfl, (blk_cell BKgd.out 1).trans rfl, (blk_cell BKgd.out 2).trans rfl, (blk_cell BKgd.out 3).trans rfl, (blk_cell BKgd.out 4).trans rfl⟩ (fun hHeld => ?_)
      clear hK K
      refine norm_ (a' := ?_) ?_ ?_
      rotate_left
      · show Act.put _ (some 52) _ = _
        simp only [Act.put, List.setIfInBounds_toArray, List.set_cons_zero, List.set_cons_succ, i64_w, i32_w]
        rfl
      refine pure_ (i := 13) (N := some 53) (v := ?_) (a' := ?_) #[true, true, true, true, true, true, true, true, true, true, true, true, true, true, false, false, false, false, false, false, false, false, false, false, false, false, false, false, false, false, false, false, false, false, false, false, false, false] rfl rfl (any_of HT_.out (by kernel_rfl)) (fun _ _ _ h => h) (Or.inl ⟨by rfl, ?_⟩) ?_ ?_
      rotate_left
      · intro w'
        go_simp
        with_reducible rfl
      rotate_left
      · simp only [Act.put, List.setIfInBounds_toArray, List.set_cons_zero, List.set_cons_succ, i64_w, i32_w]
        rfl
      refine pure_ (i := 14) (N := some 54) (v := ?_) (a' := ?_) #[true, true, true, true, true, true, true, true, true, true, true, true, true, true, true, false, false, false, false, false, false, false, false, false, false, false, false, false, false, false, false, false, false, false, false, false, false, false] rfl rfl (any_of HT_.out (by kernel_rfl)) (fun _ _ _ h => h) (Or.inl ⟨by rfl, ?_⟩) ?_ ?_
      rotate_left
      · intro w'
        go_simp
        with_reducible rfl
      rotate_left
      · simp only [Act.put, List.setIfInBounds_toArray, List.set_cons_zero, List.set_cons_succ, i64_w, i32_w]
        rfl
      refine pure_ (i := 15) (N := some 55) (v := ?_) (a' := ?_) #[true, true, true, true, true, true, true, true, true, true, true, true, true, true, true, true, false, false, false, false, false, false, false, false, false, false, false, false, false, false, false, false, false, false, false, false, false, false] rfl rfl (any_of HT_.out (by kernel_rfl)) (fun _ _ _ h => h) (Or.inl ⟨by rfl, ?_⟩) ?_ ?_
      rotate_left
      · intro w'
        go_simp
        with_reducible rfl
      rotate_left
      · simp only [Act.put, List.setIfInBounds_toArray, List.set_cons_zero, List.set_cons_succ, i64_w, i32_w]
        rfl
      refine take_ (i := 16) (N := some 56) (v := ?_) (a' := ?_) #[true, true, true, true, true, true, true, true, true, true, true, true, true, true, true, true, true, false, false, false, false, false, false, false, false, false, false, false, false, false, false, false, false, false, false, false, false, false] rfl rfl (take_ofW HT_.out HW_.out (by kernel_rfl)) (fun _ _ _ h => h) (Or.inl ⟨by rfl, ?_⟩) hHeld ?_ ?_
      rotate_left
      · rintro w' ⟨s0, s1, s2, s3, s4, s5, s6, s7, s8, s9⟩
        go_simp
        with_reducible rfl
      rotate_left
      · simp only [Act.put, List.setIfInBounds_toArray, List.set_cons_zero, List.set_cons_succ, i64_w, i32_w]
        rfl
      refine pure_ (i := 17) (N := some 57) (v := ?_) (a' := ?_) #[true, true, true, true, true, true, true, true, true, true, true, true, true, true, true, true, true, true, false, false, false, false, false, false, false, false, false, false, false, false, false, false, false, false, false, false, false, false] rfl rfl (any_of HT_.out (by kernel_rfl)) (fun _ _ _ h => h) (Or.inl ⟨by rfl, ?_⟩) ?_ ?_
      rotate_left
      · intro w'
        go_simp
        with_reducible rfl
      rotate_left
      · simp only [Act.put, List.setIfInBounds_toArray, List.set_cons_zero, List.set_cons_succ, i64_w, i32_w]
        rfl
      refine pure_ (i := 18) (N := some 58) (v := ?_) (a' := ?_) #[true, true, true, true, true, true, true, true, true, true, true, true, true, true, true, true, true, true, true, false, false, false, false, false, false, false, false, false, false, false, false, false, false, false, false, false, false, false] rfl rfl (any_of HT_.out (by kernel_rfl)) (fun _ _ _ h => h) (Or.inl ⟨by rfl, ?_⟩) ?_ ?_
      rotate_left
      · intro w'
        go_simp
        with_reducible rfl
      rotate_left
      · simp only [Act.put, List.setIfInBounds_toArray, List.set_cons_zero, List.set_cons_succ, i64_w, i32_w]
        rfl
      refine take_ (i := 20) (N := some 60) (v := ?_) (a' := ?_) #[true, true, true, true, true, true, true, true, true, true, true, true, true, true, true, true, true, true, true, false, true, false, false, false, false, false, false, false, false, false, false, false, false, false, false, false, false, false] rfl rfl (take_ofW HT_.out HW_.out (by kernel_rfl)) (fun _ _ _ h => h) (Or.inl ⟨by rfl, ?_⟩) hHeld ?_ ?_
      rotate_left
      · rintro w' ⟨s0, s1, s2, s3, s4, s5, s6, s7, s8, s9⟩
        go_simp
        with_reducible rfl
      rotate_left
      · simp only [Act.put, List.setIfInBounds_toArray, List.set_cons_zero, List.set_cons_succ, i64_w, i32_w]
        rfl
      refine pure_ (i := 21) (N := some 61) (v := ?_) (a' := ?_) #[true, true, true, true, true, true, true, true, true, true, true, true, true, true, true, true, true, true, true, false, true, true, false, false, false, false, false, false, false, false, false, false, false, false, false, false, false, false] rfl rfl (any_of HT_.out (by kernel_rfl)) (fun _ _ _ h => h) (Or.inl ⟨by rfl, ?_⟩) ?_ ?_
      rotate_left
      · intro w'
        go_simp
        with_reducible rfl
      rotate_left
      · simp only [Act.put, List.setIfInBounds_toArray, List.set_cons_zero, List.set_cons_succ, i64_w, i32_w]
        rfl
      refine pure_ (i := 22) (N := some 62) (v := ?_) (a' := ?_) #[true, true, true, true, true, true, true, true, true, true, true, true, true, true, true, true, true, true, true, false, true, true, true, false, false, false, false, false, false, false, false, false, false, false, false, false, false, false] rfl rfl (any_of HT_.out (by kernel_rfl)) (fun _ _ _ h => h) (Or.inl ⟨by rfl, ?_⟩) ?_ ?_
      rotate_left
      · intro w'
        go_simp
        with_reducible rfl
      rotate_left
      · simp only [Act.put, List.setIfInBounds_toArray, List.set_cons_zero, List.set_cons_succ, i64_w, i32_w]
        rfl
      refine one_ (i := 19) (N := some 59) #[true, true, true, true, true, true, true, true, true, true, true, true, true, true, true, true, true, true, true, true, true, true, true, false, false, false, false, false, false, false, false, false, false, false, false, false, false, false] rfl rfl (one_of HT_.out (by kernel_rfl)) (by decide) (fun K hK => ?_)
      refine goes_ Try.func10 (by kernel_rfl) rfl #[.agg #[.int .i64 t, .int .i64 b, .int .i64 i, .int .i64 f, .int .i64 c], .int .i64 (wrap64 n0), .int .i64 (wrap64 n1)] (by rfl) rfl rfl (by (try simp only [List.map_toArray, List.map_cons, List.map_nil]); first | done | rfl) ?_
      with_reducible refine (bound_Point.calls k t b i f c (wrap64 n0) (wrap64 n1) v0 _ Hv0.out).mono ?_
      rintro e w5 ⟨rfl, hb⟩
      refine ⟨_, rfl, ?_⟩
      have n_BKgc := Aside0.mk (blk_below (g := gc) (o := .cells #[.int .i64 t, .int .i64 b, .int .i64 i, .int .i64 f, .int .i64 c] 23 (0, 0)) BKgc.out hb)
      clear BKgc
      have BKgc := n_BKgc
      clear n_BKgc
      have n_BKgd := Aside0.mk (blk_below (g := w2.heap.size) (o := .cells #[.int .i64 8, .int .i64 b, .int .i64 i, .int .i64 f, .int .i64 c] 23 (0, 0)) BKgd.out hb)
      clear BKgd
      have BKgd := n_BKgd
      clear n_BKgd
      have n1_ := Aside0.mk (below_step HB.out hb)
      clear HB hb
      have HB := n1_
      clear n1_
      refine hK.out _ _ ⟨(blk_cell BKgc.out 0).trans rfl, (blk_cell BKgc.out 1).trans rfl, (blk_cell BKgc.out 2).trans rfl, (blk_cell BKgc.out 3).trans rfl, (blk_cell BKgc.out 4).trans rfl, (blk_cell BKgd.out 0).trans rfl, (blk_cell BKgd.out 1).trans rfl, (blk_cell BKgd.out 2).trans rfl, (blk_cell BKgd.out 3).trans rfl, (blk_cell BKgd.out 4).trans rfl⟩ (fun hHeld => ?_)
      clear hK K
      refine norm_ (a' := ?_) ?_ ?_
      rotate_left
      · show Act.put _ (some 59) _ = _
        simp only [Act.put, List.setIfInBounds_toArray, List.set_cons_zero, List.set_cons_succ, i64_w, i32_w]
        rfl
      refine one_ (i := 23) (N := some 63) #[true, true, true, true, true, true, true, true, true, true, true, true, true, true, true, true, true, true, true, true, true, true, true, true, false, false, false, false, false, false, false, false, false, false, false, false, false, false] rfl rfl (one_of HT_.out (by kernel_rfl)) (by decide) (fun K hK => ?_)
      refine goes_ Try.func10 (by kernel_rfl) rfl #[.agg #[.int .i64 8, .int .i64 b, .int .i64 i, .int .i64 f, .int .i64 c], .int .i64 (wrap64 (wrap64 n0 + wrap64 p)), .int .i64 (wrap64 (wrap64 n1 + wrap64 q))] (by rfl) rfl rfl (by (try simp only [List.map_toArray, List.map_cons, List.map_nil]); first | done | rfl) ?_
      with_reducible refine (bound_Point.calls k 8 b i f c (wrap64 (wrap64 n0 + wrap64 p)) (wrap64 (wrap64 n1 + wrap64 q)) v2 _ Hv2.out).mono ?_
      rintro e w6 ⟨rfl, hb⟩
      refine ⟨_, rfl, ?_⟩
      have n_BKgc := Aside0.mk (blk_below (g := gc) (o := .cells #[.int .i64 t, .int .i64 b, .int .i64 i, .int .i64 f, .int .i64 c] 23 (0, 0)) BKgc.out hb)
      clear BKgc
      have BKgc := n_BKgc
      clear n_BKgc
      have n_BKgd := Aside0.mk (blk_below (g := w2.heap.size) (o := .cells #[.int .i64 8, .int .i64 b, .int .i64 i, .int .i64 f, .int .i64 c] 23 (0, 0)) BKgd.out hb)
      clear BKgd
      have BKgd := n_BKgd
      clear n_BKgd
      have n1_ := Aside0.mk (below_step HB.out hb)
      clear HB hb
      have HB := n1_
      clear n1_
      refine hK.out _ _ ⟨(blk_cell BKgc.out 0).trans rfl, (blk_cell BKgc.out 1).trans rfl, (blk_cell BKgc.out 2).trans rfl, (blk_cell BKgc.out 3).trans rfl, (blk_cell BKgc.out 4).trans rfl, (blk_cell BKgd.out 0).trans rfl, (blk_cell BKgd.out 1).trans rfl, (blk_cell BKgd.out 2).trans rfl, (blk_cell BKgd.out 3).trans rfl, (blk_cell BKgd.out 4).trans rfl⟩ (fun hHeld => ?_)
      clear hK K
      refine norm_ (a' := ?_) ?_ ?_
      rotate_left
      · show Act.put _ (some 63) _ = _
        simp only [Act.put, List.setIfInBounds_toArray, List.set_cons_zero, List.set_cons_succ, i64_w, i32_w]
        rfl
      refine pure_ (i := 24) (N := some 64) (v := ?_) (a' := ?_) #[true, true, true, true, true, true, true, true, true, true, true, true, true, true, true, true, true, true, true, true, true, true, true, true, true, false, false, false, false, false, false, false, false, false, false, false, false, false] rfl rfl (any_of HT_.out (by kernel_rfl)) (fun _ _ _ h => h) (Or.inl ⟨by rfl, ?_⟩) ?_ ?_
      rotate_left
      · intro w'
        go_simp
        with_reducible rfl
      rotate_left
      · simp only [Act.put, List.setIfInBounds_toArray, List.set_cons_zero, List.set_cons_succ, i64_w, i32_w]
        rfl
      refine pure_ (i := 25) (N := some 65) (v := ?_) (a' := ?_) #[true, true, true, true, true, true, true, true, true, true, true, true, true, true, true, true, true, true, true, true, true, true, true, true, true, true, false, false, false, false, false, false, false, false, false, false, false, false] rfl rfl (any_of HT_.out (by kernel_rfl)) (fun _ _ _ h => h) (Or.inl ⟨by rfl, ?_⟩) ?_ ?_
      rotate_left
      · intro w'
        go_simp
        with_reducible rfl
      rotate_left
      · simp only [Act.put, List.setIfInBounds_toArray, List.set_cons_zero, List.set_cons_succ, i64_w, i32_w]
        rfl
      refine pure_ (i := 26) (N := some 66) (v := ?_) (a' := ?_) #[true, true, true, true, true, true, true, true, true, true, true, true, true, true, true, true, true, true, true, true, true, true, true, true, true, true, true, false, false, false, false, false, false, false, false, false, false, false] rfl rfl (any_of HT_.out (by kernel_rfl)) (fun _ _ _ h => h) (Or.inl ⟨by rfl, ?_⟩) ?_ ?_
      rotate_left
      · intro w'
        go_simp
        with_reducible rfl
      rotate_left
      · simp only [Act.put, List.setIfInBounds_toArray, List.set_cons_zero, List.set_cons_succ, i64_w, i32_w]
        rfl
      refine take_ (i := 27) (N := some 67) (v := ?_) (a' := ?_) #[true, true, true, true, true, true, true, true, true, true, true, true, true, true, true, true, true, true, true, true, true, true, true, true, true, true, true, true, false, false, false, false, false, false, false, false, false, false] rfl rfl (take_ofW HT_.out HW_.out (by kernel_rfl)) (fun _ _ _ h => h) (Or.inl ⟨by rfl, ?_⟩) hHeld ?_ ?_
      rotate_left
      · rintro w' ⟨s0, s1, s2, s3, s4, s5, s6, s7, s8, s9⟩
        go_simp
        with_reducible rfl
      rotate_left
      · simp only [Act.put, List.setIfInBounds_toArray, List.set_cons_zero, List.set_cons_succ, i64_w, i32_w]
        rfl
      refine pure_ (i := 28) (N := some 68) (v := ?_) (a' := ?_) #[true, true, true, true, true, true, true, true, true, true, true, true, true, true, true, true, true, true, true, true, true, true, true, true, true, true, true, true, true, false, false, false, false, false, false, false, false, false] rfl rfl (any_of HT_.out (by kernel_rfl)) (fun _ _ _ h => h) (Or.inl ⟨by rfl, ?_⟩) ?_ ?_
      rotate_left
      · intro w'
        go_simp
        with_reducible rfl
      rotate_left
      · simp only [Act.put, List.setIfInBounds_toArray, List.set_cons_zero, List.set_cons_succ, i64_w, i32_w]
        rfl
      refine pure_ (i := 29) (N := some 69) (v := ?_) (a' := ?_) #[true, true, true, true, true, true, true, true, true, true, true, true, true, true, true, true, true, true, true, true, true, true, true, true, true, true, true, true, true, true, false, false, false, false, false, false, false, false] rfl rfl (any_of HT_.out (by kernel_rfl)) (fun _ _ _ h => h) (Or.inl ⟨by rfl, ?_⟩) ?_ ?_
      rotate_left
      · intro w'
        go_simp
        with_reducible rfl
      rotate_left
      · simp only [Act.put, List.setIfInBounds_toArray, List.set_cons_zero, List.set_cons_succ, i64_w, i32_w]
        rfl
      refine take_ (i := 31) (N := some 71) (v := ?_) (a' := ?_) #[true, true, true, true, true, true, true, true, true, true, true, true, true, true, true, true, true, true, true, true, true, true, true, true, true, true, true, true, true, true, false, true, false, false, false, false, false, false] rfl rfl (take_ofW HT_.out HW_.out (by kernel_rfl)) (fun _ _ _ h => h) (Or.inl ⟨by rfl, ?_⟩) hHeld ?_ ?_
      rotate_left
      · rintro w' ⟨s0, s1, s2, s3, s4, s5, s6, s7, s8, s9⟩
        go_simp
        with_reducible rfl
      rotate_left
      · simp only [Act.put, List.setIfInBounds_toArray, List.set_cons_zero, List.set_cons_succ, i64_w, i32_w]
        rfl
      refine pure_ (i := 32) (N := some 72) (v := ?_) (a' := ?_) #[true, true, true, true, true, true, true, true, true, true, true, true, true, true, true, true, true, true, true, true, true, true, true, true, true, true, true, true, true, true, false, true, true, false, false, false, false, false] rfl rfl (any_of HT_.out (by kernel_rfl)) (fun _ _ _ h => h) (Or.inl ⟨by rfl, ?_⟩) ?_ ?_
      rotate_left
      · intro w'
        go_simp
        with_reducible rfl
      rotate_left
      · simp only [Act.put, List.setIfInBounds_toArray, List.set_cons_zero, List.set_cons_succ, i64_w, i32_w]
        rfl
      refine pure_ (i := 33) (N := some 73) (v := ?_) (a' := ?_) #[true, true, true, true, true, true, true, true, true, true, true, true, true, true, true, true, true, true, true, true, true, true, true, true, true, true, true, true, true, true, false, true, true, true, false, false, false, false] rfl rfl (any_of HT_.out (by kernel_rfl)) (fun _ _ _ h => h) (Or.inl ⟨by rfl, ?_⟩) ?_ ?_
      rotate_left
      · intro w'
        go_simp
        with_reducible rfl
      rotate_left
      · simp only [Act.put, List.setIfInBounds_toArray, List.set_cons_zero, List.set_cons_succ, i64_w, i32_w]
        rfl
      refine one_ (i := 30) (N := some 70) #[true, true, true, true, true, true, true, true, true, true, true, true, true, true, true, true, true, true, true, true, true, true, true, true, true, true, true, true, true, true, true, true, true, true, false, false, false, false] rfl rfl (one_of HT_.out (by kernel_rfl)) (by decide) (fun K hK => ?_)
      refine goes_ Try.func12 (by kernel_rfl) rfl #[.agg #[.int .i64 t, .int .i64 b, .int .i64 i, .int .i64 f, .int .i64 c], .int .i64 (wrap64 n0), .int .i64 (wrap64 n1)] (by rfl) rfl rfl (by (try simp only [List.map_toArray, List.map_cons, List.map_nil]); first | done | rfl) ?_
      with_reducible refine (bound_Scan.calls k t b i f c (wrap64 n0) (wrap64 n1) v1 _ Hv1.out).mono ?_
      rintro e w7 ⟨rfl, hb⟩
      refine ⟨_, rfl, ?_⟩
      have n_BKgc := Aside0.mk (blk_below (g := gc) (o := .cells #[.int .i64 t, .int .i64 b, .int .i64 i, .int .i64 f, .int .i64 c] 23 (0, 0)) BKgc.out hb)
      clear BKgc
      have BKgc := n_BKgc
      clear n_BKgc
      have n_BKgd := Aside0.mk (blk_below (g := w2.heap.size) (o := .cells #[.int .i64 8, .int .i64 b, .int .i64 i, .int .i64 f, .int .i64 c] 23 (0, 0)) BKgd.out hb)
      clear BKgd
      have BKgd := n_BKgd
      clear n_BKgd
      have n1_ := Aside0.mk (below_step HB.out hb)
      clear HB hb
      have HB := n1_
      clear n1_
      refine hK.out _ _ ⟨(blk_cell BKgc.out 0).trans rfl, (blk_cell BKgc.out 1).trans rfl, (blk_cell BKgc.out 2).trans rfl, (blk_cell BKgc.out 3).trans rfl, (blk_cell BKgc.out 4).trans rfl, (blk_cell BKgd.out 0).trans rfl, (blk_cell BKgd.out 1).trans rfl, (blk_cell BKgd.out 2).trans rfl, (blk_cell BKgd.out 3).trans rfl, (blk_cell BKgd.out 4).trans rfl⟩ (fun hHeld => ?_)
      clear hK K
      refine norm_ (a' := ?_) ?_ ?_
      rotate_left
      · show Act.put _ (some 70) _ = _
        simp only [Act.put, List.setIfInBounds_toArray, List.set_cons_zero, List.set_cons_succ, i64_w, i32_w]
        rfl
      refine one_ (i := 34) (N := some 74) #[true, true, true, true, true, true, true, true, true, true, true, true, true, true, true, true, true, true, true, true, true, true, true, true, true, true, true, true, true, true, true, true, true, true, true, false, false, false] rfl rfl (one_of HT_.out (by kernel_rfl)) (by decide) (fun K hK => ?_)
      refine goes_ Try.func12 (by kernel_rfl) rfl #[.agg #[.int .i64 8, .int .i64 b, .int .i64 i, .int .i64 f, .int .i64 c], .int .i64 (wrap64 (wrap64 n0 + wrap64 p)), .int .i64 (wrap64 (wrap64 n1 + wrap64 q))] (by rfl) rfl rfl (by (try simp only [List.map_toArray, List.map_cons, List.map_nil]); first | done | rfl) ?_
      with_reducible refine (bound_Scan.calls k 8 b i f c (wrap64 (wrap64 n0 + wrap64 p)) (wrap64 (wrap64 n1 + wrap64 q)) v3 _ Hv3.out).mono ?_
      rintro e w8 ⟨rfl, hb⟩
      refine ⟨_, rfl, ?_⟩
      have n_BKgc := Aside0.mk (blk_below (g := gc) (o := .cells #[.int .i64 t, .int .i64 b, .int .i64 i, .int .i64 f, .int .i64 c] 23 (0, 0)) BKgc.out hb)
      clear BKgc
      have BKgc := n_BKgc
      clear n_BKgc
      have n_BKgd := Aside0.mk (blk_below (g := w2.heap.size) (o := .cells #[.int .i64 8, .int .i64 b, .int .i64 i, .int .i64 f, .int .i64 c] 23 (0, 0)) BKgd.out hb)
      clear BKgd
      have BKgd := n_BKgd
      clear n_BKgd
      have n1_ := Aside0.mk (below_step HB.out hb)
      clear HB hb
      have HB := n1_
      clear n1_
      refine hK.out _ _ ⟨(blk_cell BKgc.out 0).trans rfl, (blk_cell BKgc.out 1).trans rfl, (blk_cell BKgc.out 2).trans rfl, (blk_cell BKgc.out 3).trans rfl, (blk_cell BKgc.out 4).trans rfl, (blk_cell BKgd.out 0).trans rfl, (blk_cell BKgd.out 1).trans rfl, (blk_cell BKgd.out 2).trans rfl, (blk_cell BKgd.out 3).trans rfl, (blk_cell BKgd.out 4).trans rfl⟩ (fun hHeld => ?_)
      clear hK K
      refine norm_ (a' := ?_) ?_ ?_
      rotate_left
      · show Act.put _ (some 74) _ = _
        simp only [Act.put, List.setIfInBounds_toArray, List.set_cons_zero, List.set_cons_succ, i64_w, i32_w]
        rfl
      refine pure_ (i := 35) (N := some 75) (v := ?_) (a' := ?_) #[true, true, true, true, true, true, true, true, true, true, true, true, true, true, true, true, true, true, true, true, true, true, true, true, true, true, true, true, true, true, true, true, true, true, true, true, false, false] rfl rfl (any_of HT_.out (by kernel_rfl)) (fun _ _ _ h => h) (Or.inl ⟨by rfl, ?_⟩) ?_ ?_
      rotate_left
      · intro w'
        go_simp
        with_reducible rfl
      rotate_left
      · simp only [Act.put, List.setIfInBounds_toArray, List.set_cons_zero, List.set_cons_succ, i64_w, i32_w]
        rfl
      refine pure_ (i := 36) (N := some 76) (v := ?_) (a' := ?_) #[true, true, true, true, true, true, true, true, true, true, true, true, true, true, true, true, true, true, true, true, true, true, true, true, true, true, true, true, true, true, true, true, true, true, true, true, true, false] rfl rfl (any_of HT_.out (by kernel_rfl)) (fun _ _ _ h => h) (Or.inl ⟨by rfl, ?_⟩) ?_ ?_
      rotate_left
      · intro w'
        go_simp
        with_reducible rfl
      rotate_left
      · simp only [Act.put, List.setIfInBounds_toArray, List.set_cons_zero, List.set_cons_succ, i64_w, i32_w]
        rfl
      refine pure_ (i := 37) (N := some 6) (v := ?_) (a' := ?_) #[true, true, true, true, true, true, true, true, true, true, true, true, true, true, true, true, true, true, true, true, true, true, true, true, true, true, true, true, true, true, true, true, true, true, true, true, true, true] rfl rfl (any_of HT_.out (by kernel_rfl)) (fun _ _ _ h => h) (Or.inl ⟨by rfl, ?_⟩) ?_ ?_
      rotate_left
      · intro w'
        go_simp
        with_reducible rfl
      rotate_left
      · simp only [Act.put, List.setIfInBounds_toArray, List.set_cons_zero, List.set_cons_succ, i64_w, i32_w]
        rfl
      refine done_ (done_of HT_.out (by kernel_rfl)) ?_
      go_wp2
      go_ret
      exact ⟨by first | rfl | (simp; done), by repeat (first | (with_reducible first | exact HB.out | apply below_alloc | apply pw_below_drewN | apply below_drew1) | exact HB.out)⟩
    · have hh := HH.out
      clear HH BKgn BKgm
      simp only [if_true, if_neg (show ¬ 8 < wrap64 (t + 1) from by omega)] at hh
      obtain ⟨v0, hv0, hh⟩ := Option.bind_eq_some_iff.mp hh
      have Hv0 := Aside0.mk hv0
      clear hv0
      obtain ⟨v1, hv1, hh⟩ := Option.bind_eq_some_iff.mp hh
      have Hv1 := Aside0.mk hv1
      clear hv1
      obtain ⟨v2, hv2, hh⟩ := Option.bind_eq_some_iff.mp hh
      have Hv2 := Aside0.mk hv2
      clear hv2
      obtain ⟨v3, hv3, hh⟩ := Option.bind_eq_some_iff.mp hh
      have Hv3 := Aside0.mk hv3
      clear hv3
      by_cases cc : 0 < v0 ∧ 0 < v1 ∧ v0 ≤ v2 ∧ v1 ≤ v3
      rotate_left
      · rw [if_neg cc] at hh
        cases hh
      rw [if_pos cc] at hh
      obtain rfl := Option.some.inj hh
      obtain ⟨d0, d1, d2, d3⟩ := cc
      clear hh
      have D0 : decide (0 < v0) = true := decide_eq_true d0
      have D1 : decide (0 < v1) = true := decide_eq_true d1
      have D2 : decide (v0 ≤ v2) = true := decide_eq_true d2
      have D3 : decide (v1 ≤ v3) = true := decide_eq_true d3
      clear d0 d1 d2 d3
      have BKgd := Aside0.mk (blk_new w2 (.cells #[.int .i64 (wrap64 (t + 1)), .int .i64 b, .int .i64 i, .int .i64 f, .int .i64 c] 23))
      have n_ := Aside0.mk (blk_alloc (g := gc) (o := .cells #[.int .i64 t, .int .i64 b, .int .i64 i, .int .i64 f, .int .i64 c] 23 (0, 0)) BKgc.out (.cells #[.int .i64 (wrap64 (t + 1)), .int .i64 b, .int .i64 i, .int .i64 f, .int .i64 c] 23))
      clear BKgc
      have BKgc := n_
      clear n_
      have n_ := Aside0.mk (below_alloc HB.out (.cells #[.int .i64 (wrap64 (t + 1)), .int .i64 b, .int .i64 i, .int .i64 f, .int .i64 c] 23))
      clear HB
      have HB := n_
      clear n_
      have n_BKgc := Aside0.mk (blk_drew (g := gc) (o := .cells #[.int .i64 t, .int .i64 b, .int .i64 i, .int .i64 f, .int .i64 c] 23 (0, 0)) BKgc.out)
      clear BKgc
      have BKgc := n_BKgc
      clear n_BKgc
      have n_BKgd := Aside0.mk (blk_drew (g := w2.heap.size) (o := .cells #[.int .i64 (wrap64 (t + 1)), .int .i64 b, .int .i64 i, .int .i64 f, .int .i64 c] 23 (0, 0)) BKgd.out)
      clear BKgd
      have BKgd := n_BKgd
      clear n_BKgd
      have n1_ := Aside0.mk (below_drew1 HB.out)
      clear HB
      have HB := n1_
      clear n1_
      refine start_ (n := 38) (S := fun w' => w'.cell? ⟨gc, 0, none⟩ = some (.int .i64 t) ∧ w'.cell? ⟨gc, 1, none⟩ = some (.int .i64 b) ∧ w'.cell? ⟨gc, 2, none⟩ = some (.int .i64 i) ∧ w'.cell? ⟨gc, 3, none⟩ = some (.int .i64 f) ∧ w'.cell? ⟨gc, 4, none⟩ = some (.int .i64 c) ∧ w'.cell? ⟨w2.heap.size, 0, none⟩ = some (.int .i64 (wrap64 (t + 1))) ∧ w'.cell? ⟨w2.heap.size, 1, none⟩ = some (.int .i64 b) ∧ w'.cell? ⟨w2.heap.size, 2, none⟩ = some (.int .i64 i) ∧ w'.cell? ⟨w2.heap.size, 3, none⟩ = some (.int .i64 f) ∧ w'.cell? ⟨w2.heap.size, 4, none⟩ = some (.int .i64 c)) (ds := []) #[false, false, false, false, false, false, false, false, false, false, false, false, false, false, false, false, false, false, false, false, false, false, false, false, false, false, false, false, false, false, false, false, false, false, false, false, false, false] (by kernel_rfl) rfl rfl ⟨(blk_cell BKgc.out 0).trans rfl, (blk_cell BKgc.out 1).trans rfl, (blk_cell BKgc.out 2).trans rfl, (blk_cell BKgc.out 3).trans rfl, (blk_cell BKgc.out 4).trans rfl, (blk_cell BKgd.out 0).trans rfl, (blk_cell BKgd.out 1).trans rfl, (blk_cell BKgd.out 2).trans rfl, (blk_cell BKgd.out 3).trans rfl, (blk_cell BKgd.out 4).trans rfl⟩ (fun hHeld => ?_); refine with_tabW corrielaw23_BoundRises.tab10 corrielaw23_BoundRises.bits10 (fun HT_ HW_ => ?_)
      generalize (w2.alloc (.cells #[.int .i64 (wrap64 (t + 1)), .int .i64 b, .int .i64 i, .int .i64 f, .int .i64 c] 23)).drew = W1 at BKgc BKgd HB hHeld ⊢
      refine pure_ (i := 0) (N := some 40) (v := ?_) (a' := ?_) #[true, false, false, false, false, false, false, false, false, false, false, false, false, false, false, false, false, false, false, false, false, false, false, false, false, false, false, false, false, false, false, false, false, false, false, false, false, false] rfl rfl (any_of HT_.out (by kernel_rfl)) (fun _ _ _ h => h) (Or.inl ⟨by rfl, ?_⟩) ?_ ?_
      rotate_left
      · intro w'
        go_simp
        with_reducible rfl
      rotate_left
      · simp only [Act.put, List.setIfInBounds_toArray, List.set_cons_zero, List.set_cons_succ, i64_w, i32_w]
        rfl
      refine pure_ (i := 1) (N := some 41) (v := ?_) (a' := ?_) #[true, true, false, false, false, false, false, false, false, false, false, false, false, false, false, false, false, false, false, false, false, false, false, false, false, false, false, false, false, false, false, false, false, false, false, false, false, false] rfl rfl (any_of HT_.out (by kernel_rfl)) (fun _ _ _ h => h) (Or.inl ⟨by rfl, ?_⟩) ?_ ?_
      rotate_left
      · intro w'
        go_simp
        with_reducible rfl
      rotate_left
      · simp only [Act.put, List.setIfInBounds_toArray, List.set_cons_zero, List.set_cons_succ, i64_w, i32_w]
        rfl
      refine take_ (i := 2) (N := some 42) (v := ?_) (a' := ?_) #[true, true, true, false, false, false, false, false, false, false, false, false, false, false, false, false, false, false, false, false, false, false, false, false, false, false, false, false, false, false, false, false, false, false, false, false, false, false] rfl rfl (take_ofW HT_.out HW_.out (by kernel_rfl)) (fun _ _ _ h => h) (Or.inl ⟨by rfl, ?_⟩) hHeld ?_ ?_
      rotate_left
      · rintro w' ⟨s0, s1, s2, s3, s4, s5, s6, s7, s8, s9⟩
        go_simp
        with_reducible rfl
      rotate_left
      · simp only [Act.put, List.setIfInBounds_toArray, List.set_cons_zero, List.set_cons_succ, i64_w, i32_w]
        rfl
      refine pure_ (i := 3) (N := some 43) (v := ?_) (a' := ?_) #[true, true, true, true, false, false, false, false, false, false, false, false, false, false, false, false, false, false, false, false, false, false, false, false, false, false, false, false, false, false, false, false, false, false, false, false, false, false] rfl rfl (any_of HT_.out (by kernel_rfl)) (fun _ _ _ h => h) (Or.inl ⟨by rfl, ?_⟩) ?_ ?_
      rotate_left
      · intro w'
        go_simp
        with_reducible rfl
      rotate_left
      · simp only [Act.put, List.setIfInBounds_toArray, List.set_cons_zero, List.set_cons_succ, i64_w, i32_w]
        rfl
      refine pure_ (i := 4) (N := some 44) (v := ?_) (a' := ?_) #[true, true, true, true, true, false, false, false, false, false, false, false, false, false, false, false, false, false, false, false, false, false, false, false, false, false, false, false, false, false, false, false, false, false, false, false, false, false] rfl rfl (any_of HT_.out (by kernel_rfl)) (fun _ _ _ h => h) (Or.inl ⟨by rfl, ?_⟩) ?_ ?_
      rotate_left
      · intro w'
        go_simp
        with_reducible rfl
      rotate_left
      · simp only [Act.put, List.setIfInBounds_toArray, List.set_cons_zero, List.set_cons_succ, i64_w, i32_w]
        rfl
      refine one_ (i := 5) (N := some 45) #[true, true, true, true, true, true, false, false, false, false, false, false, false, false, false, false, false, false, false, false, false, false, false, false, false, false, false, false, false, false, false, false, false, false, false, false, false, false] rfl rfl (one_of HT_.out (by kernel_rfl)) (by decide) (fun K hK => ?_)
      refine goes_ Try.func10 (by kernel_rfl) rfl #[.agg #[.int .i64 t, .int .i64 b, .int .i64 i, .int .i64 f, .int .i64 c], .int .i64 (wrap64 n0), .int .i64 (wrap64 n1)] (by rfl) rfl rfl (by (try simp only [List.map_toArray, List.map_cons, List.map_nil]); first | done | rfl) ?_
      with_reducible refine (bound_Point.calls k t b i f c (wrap64 n0) (wrap64 n1) v0 _ Hv0.out).mono ?_
      rintro e w3 ⟨rfl, hb⟩
      refine ⟨_, rfl, ?_⟩
      have n_BKgc := Aside0.mk (blk_below (g := gc) (o := .cells #[.int .i64 t, .int .i64 b, .int .i64 i, .int .i64 f, .int .i64 c] 23 (0, 0)) BKgc.out hb)
      clear BKgc
      have BKgc := n_BKgc
      clear n_BKgc
      have n_BKgd := Aside0.mk (blk_below (g := w2.heap.size) (o := .cells #[.int .i64 (wrap64 (t + 1)), .int .i64 b, .int .i64 i, .int .i64 f, .int .i64 c] 23 (0, 0)) BKgd.out hb)
      clear BKgd
      have BKgd := n_BKgd
      clear n_BKgd
      have n1_ := Aside0.mk (below_step HB.out hb)
      clear HB hb
      have HB := n1_
      clear n1_
      refine hK.out _ _ ⟨(blk_cell BKgc.out 0).trans rfl, (blk_cell BKgc.out 1).trans rfl, (blk_cell BKgc.out 2).trans rfl, (blk_cell BKgc.out 3).trans rfl, (blk_cell BKgc.out 4).trans rfl, (blk_cell BKgd.out 0).trans rfl, (blk_cell BKgd.out 1).trans rfl, (blk_cell BKgd.out 2).trans rfl, (blk_cell BKgd.out 3).trans rfl, (blk_cell BKgd.out 4).trans rfl⟩ (fun hHeld => ?_)
      clear hK K
      refine norm_ (a' := ?_) ?_ ?_
      rotate_left
      · show Act.put _ (some 45) _ = _
        simp only [Act.put, List.setIfInBounds_toArray, List.set_cons_zero, List.set_cons_succ, i64_w, i32_w]
        rfl
      refine pure_ (i := 6) (N := some 46) (v := ?_) (a' := ?_) #[true, true, true, true, true, true, true, false, false, false, false, false, false, false, false, false, false, false, false, false, false, false, false, false, false, false, false, false, false, false, false, false, false, false, false, false, false, false] rfl rfl (any_of HT_.out (by kernel_rfl)) (fun _ _ _ h => h) (Or.inl ⟨by rfl, ?_⟩) ?_ ?_
      rotate_left
      · intro w'
        go_simp
        with_reducible rfl
      rotate_left
      · simp only [Act.put, List.setIfInBounds_toArray, List.set_cons_zero, List.set_cons_succ, i64_w, i32_w]
        rfl
      refine pure_ (i := 7) (N := some 47) (v := ?_) (a' := ?_) #[true, true, true, true, true, true, true, true, false, false, false, false, false, false, false, false, false, false, false, false, false, false, false, false, false, false, false, false, false, false, false, false, false, false, false, false, false, false] rfl rfl (any_of HT_.out (by kernel_rfl)) (fun _ _ _ h => h) (Or.inl ⟨by rfl, ?_⟩) ?_ ?_
      rotate_left
      · intro w'
        go_simp
        with_reducible rfl
      rotate_left
      · simp only [Act.put, List.setIfInBounds_toArray, List.set_cons_zero, List.set_cons_succ, i64_w, i32_w]
        rfl
      refine pure_ (i := 8) (N := some 48) (v := ?_) (a' := ?_) #[true, true, true, true, true, true, true, true, true, false, false, false, false, false, false, false, false, false, false, false, false, false, false, false, false, false, false, false, false, false, false, false, false, false, false, false, false, false] rfl rfl (any_of HT_.out (by kernel_rfl)) (fun _ _ _ h => h) (Or.inl ⟨by rfl, ?_⟩) ?_ ?_
      rotate_left
      · intro w'
        go_simp
        with_reducible rfl
      rotate_left
      · simp only [Act.put, List.setIfInBounds_toArray, List.set_cons_zero, List.set_cons_succ, i64_w, i32_w]
        rfl
      refine take_ (i := 9) (N := some 49) (v := ?_) (a' := ?_) #[true, true, true, true, true, true, true, true, true, true, false, false, false, false, false, false, false, false, false, false, false, false, false, false, false, false, false, false, false, false, false, false, false, false, false, false, false, false] rfl rfl (take_ofW HT_.out HW_.out (by kernel_rfl)) (fun _ _ _ h => h) (Or.inl ⟨by rfl, ?_⟩) hHeld ?_ ?_
      rotate_left
      · rintro w' ⟨s0, s1, s2, s3, s4, s5, s6, s7, s8, s9⟩
        go_simp
        with_reducible rfl
      rotate_left
      · simp only [Act.put, List.setIfInBounds_toArray, List.set_cons_zero, List.set_cons_succ, i64_w, i32_w]
        rfl
      refine pure_ (i := 10) (N := some 50) (v := ?_) (a' := ?_) #[true, true, true, true, true, true, true, true, true, true, true, false, false, false, false, false, false, false, false, false, false, false, false, false, false, false, false, false, false, false, false, false, false, false, false, false, false, false] rfl rfl (any_of HT_.out (by kernel_rfl)) (fun _ _ _ h => h) (Or.inl ⟨by rfl, ?_⟩) ?_ ?_
      rotate_left
      · intro w'
        go_simp
        with_reducible rfl
      rotate_left
      · simp only [Act.put, List.setIfInBounds_toArray, List.set_cons_zero, List.set_cons_succ, i64_w, i32_w]
        rfl
      refine pure_ (i := 11) (N := some 51) (v := ?_) (a' := ?_) #[true, true, true, true, true, true, true, true, true, true, true, true, false, false, false, false, false, false, false, false, false, false, false, false, false, false, false, false, false, false, false, false, false, false, false, false, false, false] rfl rfl (any_of HT_.out (by kernel_rfl)) (fun _ _ _ h => h) (Or.inl ⟨by rfl, ?_⟩) ?_ ?_
      rotate_left
      · intro w'
        go_simp
        with_reducible rfl
      rotate_left
      · simp only [Act.put, List.setIfInBounds_toArray, List.set_cons_zero, List.set_cons_succ, i64_w, i32_w]
        rfl
      refine one_ (i := 12) (N := some 52) #[true, true, true, true, true, true, true, true, true, true, true, true, true, false, false, false, false, false, false, false, false, false, false, false, false, false, false, false, false, false, false, false, false, false, false, false, false, false] rfl rfl (one_of HT_.out (by kernel_rfl)) (by decide) (fun K hK => ?_)
      refine goes_ Try.func12 (by kernel_rfl) rfl #[.agg #[.int .i64 t, .int .i64 b, .int .i64 i, .int .i64 f, .int .i64 c], .int .i64 (wrap64 n0), .int .i64 (wrap64 n1)] (by rfl) rfl rfl (by (try simp only [List.map_toArray, List.map_cons, List.map_nil]); first | done | rfl) ?_
      with_reducible refine (bound_Scan.calls k t b i f c (wrap64 n0) (wrap64 n1) v1 _ Hv1.out).mono ?_
      rintro e w4 ⟨rfl, hb⟩
      refine ⟨_, rfl, ?_⟩
      have n_BKgc := Aside0.mk (blk_below (g := gc) (o := .cells #[.int .i64 t, .int .i64 b, .int .i64 i, .int .i64 f, .int .i64 c] 23 (0, 0)) BKgc.out hb)
      clear BKgc
      have BKgc := n_BKgc
      clear n_BKgc
      have n_BKgd := Aside0.mk (blk_below (g := w2.heap.size) (o := .cells #[.int .i64 (wrap64 (t + 1)), .int .i64 b, .int .i64 i, .int .i64 f, .int .i64 c] 23 (0, 0)) BKgd.out hb)
      clear BKgd
      have BKgd := n_BKgd
      clear n_BKgd
      have n1_ := Aside0.mk (below_step HB.out hb)
      clear HB hb
      have HB := n1_
      clear n1_
      refine hK.out _ _ ⟨(blk_cell BKgc.out 0).trans rfl, (blk_cell BKgc.out 1).trans rfl, (blk_cell BKgc.out 2).trans rfl, (blk_cell BKgc.out 3).trans rfl, (blk_cell BKgc.out 4).trans rfl, (blk_cell BKgd.out 0).trans rfl, (blk_cell BKgd.out 1).trans rfl, (blk_cell BKgd.out 2).trans rfl, (blk_cell BKgd.out 3).trans rfl, (blk_cell BKgd.out 4).trans rfl⟩ (fun hHeld => ?_)
      clear hK K
      refine norm_ (a' := ?_) ?_ ?_
      rotate_left
      · show Act.put _ (some 52) _ = _
        simp only [Act.put, List.setIfInBounds_toArray, List.set_cons_zero, List.set_cons_succ, i64_w, i32_w]
        rfl
      refine pure_ (i := 13) (N := some 53) (v := ?_) (a' := ?_) #[true, true, true, true, true, true, true, true, true, true, true, true, true, true, false, false, false, false, false, false, false, false, false, false, false, false, false, false, false, false, false, false, false, false, false, false, false, false] rfl rfl (any_of HT_.out (by kernel_rfl)) (fun _ _ _ h => h) (Or.inl ⟨by rfl, ?_⟩) ?_ ?_
      rotate_left
      · intro w'
        go_simp
        with_reducible rfl
      rotate_left
      · simp only [Act.put, List.setIfInBounds_toArray, List.set_cons_zero, List.set_cons_succ, i64_w, i32_w]
        rfl
      refine pure_ (i := 14) (N := some 54) (v := ?_) (a' := ?_) #[true, true, true, true, true, true, true, true, true, true, true, true, true, true, true, false, false, false, false, false, false, false, false, false, false, false, false, false, false, false, false, false, false, false, false, false, false, false] rfl rfl (any_of HT_.out (by kernel_rfl)) (fun _ _ _ h => h) (Or.inl ⟨by rfl, ?_⟩) ?_ ?_
      rotate_left
      · intro w'
        go_simp
        with_reducible rfl
      rotate_left
      · simp only [Act.put, List.setIfInBounds_toArray, List.set_cons_zero, List.set_cons_succ, i64_w, i32_w]
        rfl
      refine pure_ (i := 15) (N := some 55) (v := ?_) (a' := ?_) #[true, true, true, true, true, true, true, true, true, true, true, true, true, true, true, true, false, false, false, false, false, false, false, false, false, false, false, false, false, false, false, false, false, false, false, false, false, false] rfl rfl (any_of HT_.out (by kernel_rfl)) (fun _ _ _ h => h) (Or.inl ⟨by rfl, ?_⟩) ?_ ?_
      rotate_left
      · intro w'
        go_simp
        with_reducible rfl
      rotate_left
      · simp only [Act.put, List.setIfInBounds_toArray, List.set_cons_zero, List.set_cons_succ, i64_w, i32_w]
        rfl
      refine take_ (i := 16) (N := some 56) (v := ?_) (a' := ?_) #[true, true, true, true, true, true, true, true, true, true, true, true, true, true, true, true, true, false, false, false, false, false, false, false, false, false, false, false, false, false, false, false, false, false, false, false, false, false] rfl rfl (take_ofW HT_.out HW_.out (by kernel_rfl)) (fun _ _ _ h => h) (Or.inl ⟨by rfl, ?_⟩) hHeld ?_ ?_
      rotate_left
      · rintro w' ⟨s0, s1, s2, s3, s4, s5, s6, s7, s8, s9⟩
        go_simp
        with_reducible rfl
      rotate_left
      · simp only [Act.put, List.setIfInBounds_toArray, List.set_cons_zero, List.set_cons_succ, i64_w, i32_w]
        rfl
      refine pure_ (i := 17) (N := some 57) (v := ?_) (a' := ?_) #[true, true, true, true, true, true, true, true, true, true, true, true, true, true, true, true, true, true, false, false, false, false, false, false, false, false, false, false, false, false, false, false, false, false, false, false, false, false] rfl rfl (any_of HT_.out (by kernel_rfl)) (fun _ _ _ h => h) (Or.inl ⟨by rfl, ?_⟩) ?_ ?_
      rotate_left
      · intro w'
        go_simp
        with_reducible rfl
      rotate_left
      · simp only [Act.put, List.setIfInBounds_toArray, List.set_cons_zero, List.set_cons_succ, i64_w, i32_w]
        rfl
      refine pure_ (i := 18) (N := some 58) (v := ?_) (a' := ?_) #[true, true, true, true, true, true, true, true, true, true, true, true, true, true, true, true, true, true, true, false, false, false, false, false, false, false, false, false, false, false, false, false, false, false, false, false, false, false] rfl rfl (any_of HT_.out (by kernel_rfl)) (fun _ _ _ h => h) (Or.inl ⟨by rfl, ?_⟩) ?_ ?_
      rotate_left
      · intro w'
        go_simp
        with_reducible rfl
      rotate_left
      · simp only [Act.put, List.setIfInBounds_toArray, List.set_cons_zero, List.set_cons_succ, i64_w, i32_w]
        rfl
      refine take_ (i := 20) (N := some 60) (v := ?_) (a' := ?_) #[true, true, true, true, true, true, true, true, true, true, true, true, true, true, true, true, true, true, true, false, true, false, false, false, false, false, false, false, false, false, false, false, false, false, false, false, false, false] rfl rfl (take_ofW HT_.out HW_.out (by kernel_rfl)) (fun _ _ _ h => h) (Or.inl ⟨by rfl, ?_⟩) hHeld ?_ ?_
      rotate_left
      · rintro w' ⟨s0, s1, s2, s3, s4, s5, s6, s7, s8, s9⟩
        go_simp
        with_reducible rfl
      rotate_left
      · simp only [Act.put, List.setIfInBounds_toArray, List.set_cons_zero, List.set_cons_succ, i64_w, i32_w]
        rfl
      refine pure_ (i := 21) (N := some 61) (v := ?_) (a' := ?_) #[true, true, true, true, true, true, true, true, true, true, true, true, true, true, true, true, true, true, true, false, true, true, false, false, false, false, false, false, false, false, false, false, false, false, false, false, false, false] rfl rfl (any_of HT_.out (by kernel_rfl)) (fun _ _ _ h => h) (Or.inl ⟨by rfl, ?_⟩) ?_ ?_
      rotate_left
      · intro w'
        go_simp
        with_reducible rfl
      rotate_left
      · simp only [Act.put, List.setIfInBounds_toArray, List.set_cons_zero, List.set_cons_succ, i64_w, i32_w]
        rfl
      refine pure_ (i := 22) (N := some 62) (v := ?_) (a' := ?_) #[true, true, true, true, true, true, true, true, true, true, true, true, true, true, true, true, true, true, true, false, true, true, true, false, false, false, false, false, false, false, false, false, false, false, false, false, false, false] rfl rfl (any_of HT_.out (by kernel_rfl)) (fun _ _ _ h => h) (Or.inl ⟨by rfl, ?_⟩) ?_ ?_
      rotate_left
      · intro w'
        go_simp
        with_reducible rfl
      rotate_left
      · simp only [Act.put, List.setIfInBounds_toArray, List.set_cons_zero, List.set_cons_succ, i64_w, i32_w]
        rfl
      refine one_ (i := 19) (N := some 59) #[true, true, true, true, true, true, true, true, true, true, true, true, true, true, true, true, true, true, true, true, true, true, true, false, false, false, false, false, false, false, false, false, false, false, false, false, false, false] rfl rfl (one_of HT_.out (by kernel_rfl)) (by decide) (fun K hK => ?_)
      refine goes_ Try.func10 (by kernel_rfl) rfl #[.agg #[.int .i64 t, .int .i64 b, .int .i64 i, .int .i64 f, .int .i64 c], .int .i64 (wrap64 n0), .int .i64 (wrap64 n1)] (by rfl) rfl rfl (by (try simp only [List.map_toArray, List.map_cons, List.map_nil]); first | done | rfl) ?_
      with_reducible refine (bound_Point.calls k t b i f c (wrap64 n0) (wrap64 n1) v0 _ Hv0.out).mono ?_
      rintro e w5 ⟨rfl, hb⟩
      refine ⟨_, rfl, ?_⟩
      have n_BKgc := Aside0.mk (blk_below (g := gc) (o := .cells #[.int .i64 t, .int .i64 b, .int .i64 i, .int .i64 f, .int .i64 c] 23 (0, 0)) BKgc.out hb)
      clear BKgc
      have BKgc := n_BKgc
      clear n_BKgc
      have n_BKgd := Aside0.mk (blk_below (g := w2.heap.size) (o := .cells #[.int .i64 (wrap64 (t + 1)), .int .i64 b, .int .i64 i, .int .i64 f, .int .i64 c] 23 (0, 0)) BKgd.out hb)
      clear BKgd
      have BKgd := n_BKgd
      clear n_BKgd
      have n1_ := Aside0.mk (below_step HB.out hb)
      clear HB hb
      have HB := n1_
      clear n1_
      refine hK.out _ _ ⟨(blk_cell BKgc.out 0).trans rfl, (blk_cell BKgc.out 1).trans rfl, (blk_cell BKgc.out 2).trans rfl, (blk_cell BKgc.out 3).trans rfl, (blk_cell BKgc.out 4).trans rfl, (blk_cell BKgd.out 0).trans rfl, (blk_cell BKgd.out 1).trans rfl, (blk_cell BKgd.out 2).trans rfl, (blk_cell BKgd.out 3).trans rfl, (blk_cell BKgd.out 4).trans rfl⟩ (fun hHeld => ?_)
      clear hK K
      refine norm_ (a' := ?_) ?_ ?_
      rotate_left
      · show Act.put _ (some 59) _ = _
        simp only [Act.put, List.setIfInBounds_toArray, List.set_cons_zero, List.set_cons_succ, i64_w, i32_w]
        rfl
      refine one_ (i := 23) (N := some 63) #[true, true, true, true, true, true, true, true, true, true, true, true, true, true, true, true, true, true, true, true, true, true, true, true, false, false, false, false, false, false, false, false, false, false, false, false, false, false] rfl rfl (one_of HT_.out (by kernel_rfl)) (by decide) (fun K hK => ?_)
      refine goes_ Try.func10 (by kernel_rfl) rfl #[.agg #[.int .i64 (wrap64 (t + 1)), .int .i64 b, .int .i64 i, .int .i64 f, .int .i64 c], .int .i64 (wrap64 (wrap64 n0 + wrap64 p)), .int .i64 (wrap64 (wrap64 n1 + wrap64 q))] (by rfl) rfl rfl (by (try simp only [List.map_toArray, List.map_cons, List.map_nil]); first | done | rfl) ?_
      with_reducible refine (bound_Point.calls k (wrap64 (t + 1)) b i f c (wrap64 (wrap64 n0 + wrap64 p)) (wrap64 (wrap64 n1 + wrap64 q)) v2 _ Hv2.out).mono ?_
      rintro e w6 ⟨rfl, hb⟩
      refine ⟨_, rfl, ?_⟩
      have n_BKgc := Aside0.mk (blk_below (g := gc) (o := .cells #[.int .i64 t, .int .i64 b, .int .i64 i, .int .i64 f, .int .i64 c] 23 (0, 0)) BKgc.out hb)
      clear BKgc
      have BKgc := n_BKgc
      clear n_BKgc
      have n_BKgd := Aside0.mk (blk_below (g := w2.heap.size) (o := .cells #[.int .i64 (wrap64 (t + 1)), .int .i64 b, .int .i64 i, .int .i64 f, .int .i64 c] 23 (0, 0)) BKgd.out hb)
      clear BKgd
      have BKgd := n_BKgd
      clear n_BKgd
      have n1_ := Aside0.mk (below_step HB.out hb)
      clear HB hb
      have HB := n1_
      clear n1_
      refine hK.out _ _ ⟨(blk_cell BKgc.out 0).trans rfl, (blk_cell BKgc.out 1).trans rfl, (blk_cell BKgc.out 2).trans rfl, (blk_cell BKgc.out 3).trans rfl, (blk_cell BKgc.out 4).trans rfl, (blk_cell BKgd.out 0).trans rfl, (blk_cell BKgd.out 1).trans rfl, (blk_cell BKgd.out 2).trans rfl, (blk_cell BKgd.out 3).trans rfl, (blk_cell BKgd.out 4).trans rfl⟩ (fun hHeld => ?_)
      clear hK K
      refine norm_ (a' := ?_) ?_ ?_
      rotate_left
      · show Act.put _ (some 63) _ = _
        simp only [Act.put, List.setIfInBounds_toArray, List.set_cons_zero, List.set_cons_succ, i64_w, i32_w]
        rfl
      refine pure_ (i := 24) (N := some 64) (v := ?_) (a' := ?_) #[true, true, true, true, true, true, true, true, true, true, true, true, true, true, true, true, true, true, true, true, true, true, true, true, true, false, false, false, false, false, false, false, false, false, false, false, false, false] rfl rfl (any_of HT_.out (by kernel_rfl)) (fun _ _ _ h => h) (Or.inl ⟨by rfl, ?_⟩) ?_ ?_
      rotate_left
      · intro w'
        go_simp
        with_reducible rfl
      rotate_left
      · simp only [Act.put, List.setIfInBounds_toArray, List.set_cons_zero, List.set_cons_succ, i64_w, i32_w]
        rfl
      refine pure_ (i := 25) (N := some 65) (v := ?_) (a' := ?_) #[true, true, true, true, true, true, true, true, true, true, true, true, true, true, true, true, true, true, true, true, true, true, true, true, true, true, false, false, false, false, false, false, false, false, false, false, false, false] rfl rfl (any_of HT_.out (by kernel_rfl)) (fun _ _ _ h => h) (Or.inl ⟨by rfl, ?_⟩) ?_ ?_
      rotate_left
      · intro w'
        go_simp
        with_reducible rfl
      rotate_left
      · simp only [Act.put, List.setIfInBounds_toArray, List.set_cons_zero, List.set_cons_succ, i64_w, i32_w]
        rfl
      refine pure_ (i := 26) (N := some 66) (v := ?_) (a' := ?_) #[true, true, true, true, true, true, true, true, true, true, true, true, true, true, true, true, true, true, true, true, true, true, true, true, true, true, true, false, false, false, false, false, false, false, false, false, false, false] rfl rfl (any_of HT_.out (by kernel_rfl)) (fun _ _ _ h => h) (Or.inl ⟨by rfl, ?_⟩) ?_ ?_
      rotate_left
      · intro w'
        go_simp
        with_reducible rfl
      rotate_left
      · simp only [Act.put, List.setIfInBounds_toArray, List.set_cons_zero, List.set_cons_succ, i64_w, i32_w]
        rfl
      refine take_ (i := 27) (N := some 67) (v := ?_) (a' := ?_) #[true, true, true, true, true, true, true, true, true, true, true, true, true, true, true, true, true, true, true, true, true, true, true, true, true, true, true, true, false, false, false, false, false, false, false, false, false, false] rfl rfl (take_ofW HT_.out HW_.out (by kernel_rfl)) (fun _ _ _ h => h) (Or.inl ⟨by rfl, ?_⟩) hHeld ?_ ?_
      rotate_left
      · rintro w' ⟨s0, s1, s2, s3, s4, s5, s6, s7, s8, s9⟩
        go_simp
        with_reducible rfl
      rotate_left
      · simp only [Act.put, List.setIfInBounds_toArray, List.set_cons_zero, List.set_cons_succ, i64_w, i32_w]
        rfl
      refine pure_ (i := 28) (N := some 68) (v := ?_) (a' := ?_) #[true, true, true, true, true, true, true, true, true, true, true, true, true, true, true, true, true, true, true, true, true, true, true, true, true, true, true, true, true, false, false, false, false, false, false, false, false, false] rfl rfl (any_of HT_.out (by kernel_rfl)) (fun _ _ _ h => h) (Or.inl ⟨by rfl, ?_⟩) ?_ ?_
      rotate_left
      · intro w'
        go_simp
        with_reducible rfl
      rotate_left
      · simp only [Act.put, List.setIfInBounds_toArray, List.set_cons_zero, List.set_cons_succ, i64_w, i32_w]
        rfl
      refine pure_ (i := 29) (N := some 69) (v := ?_) (a' := ?_) #[true, true, true, true, true, true, true, true, true, true, true, true, true, true, true, true, true, true, true, true, true, true, true, true, true, true, true, true, true, true, false, false, false, false, false, false, false, false] rfl rfl (any_of HT_.out (by kernel_rfl)) (fun _ _ _ h => h) (Or.inl ⟨by rfl, ?_⟩) ?_ ?_
      rotate_left
      · intro w'
        go_simp
        with_reducible rfl
      rotate_left
      · simp only [Act.put, List.setIfInBounds_toArray, List.set_cons_zero, List.set_cons_succ, i64_w, i32_w]
        rfl
      refine take_ (i := 31) (N := some 71) (v := ?_) (a' := ?_) #[true, true, true, true, true, true, true, true, true, true, true, true, true, true, true, true, true, true, true, true, true, true, true, true, true, true, true, true, true, true, false, true, false, false, false, false, false, false] rfl rfl (take_ofW HT_.out HW_.out (by kernel_rfl)) (fun _ _ _ h => h) (Or.inl ⟨by rfl, ?_⟩) hHeld ?_ ?_
      rotate_left
      · rintro w' ⟨s0, s1, s2, s3, s4, s5, s6, s7, s8, s9⟩
        go_simp
        with_reducible rfl
      rotate_left
      · simp only [Act.put, List.setIfInBounds_toArray, List.set_cons_zero, List.set_cons_succ, i64_w, i32_w]
        rfl
      refine pure_ (i := 32) (N := some 72) (v := ?_) (a' := ?_) #[true, true, true, true, true, true, true, true, true, true, true, true, true, true, true, true, true, true, true, true, true, true, true, true, true, true, true, true, true, true, false, true, true, false, false, false, false, false] rfl rfl (any_of HT_.out (by kernel_rfl)) (fun _ _ _ h => h) (Or.inl ⟨by rfl, ?_⟩) ?_ ?_
      rotate_left
      · intro w'
        go_simp
        with_reducible rfl
      rotate_left
      · simp only [Act.put, List.setIfInBounds_toArray, List.set_cons_zero, List.set_cons_succ, i64_w, i32_w]
        rfl
      refine pure_ (i := 33) (N := some 73) (v := ?_) (a' := ?_) #[true, true, true, true, true, true, true, true, true, true, true, true, true, true, true, true, true, true, true, true, true, true, true, true, true, true, true, true, true, true, false, true, true, true, false, false, false, false] rfl rfl (any_of HT_.out (by kernel_rfl)) (fun _ _ _ h => h) (Or.inl ⟨by rfl, ?_⟩) ?_ ?_
      rotate_left
      · intro w'
        go_simp
        with_reducible rfl
      rotate_left
      · simp only [Act.put, List.setIfInBounds_toArray, List.set_cons_zero, List.set_cons_succ, i64_w, i32_w]
        rfl
      refine one_ (i := 30) (N := some 70) #[true, true, true, true, true, true, true, true, true, true, true, true, true, true, true, true, true, true, true, true, true, true, true, true, true, true, true, true, true, true, true, true, true, true, false, false, false, false] rfl rfl (one_of HT_.out (by kernel_rfl)) (by decide) (fun K hK => ?_)
      refine goes_ Try.func12 (by kernel_rfl) rfl #[.agg #[.int .i64 t, .int .i64 b, .int .i64 i, .int .i64 f, .int .i64 c], .int .i64 (wrap64 n0), .int .i64 (wrap64 n1)] (by rfl) rfl rfl (by (try simp only [List.map_toArray, List.map_cons, List.map_nil]); first | done | rfl) ?_
      with_reducible refine (bound_Scan.calls k t b i f c (wrap64 n0) (wrap64 n1) v1 _ Hv1.out).mono ?_
      rintro e w7 ⟨rfl, hb⟩
      refine ⟨_, rfl, ?_⟩
      have n_BKgc := Aside0.mk (blk_below (g := gc) (o := .cells #[.int .i64 t, .int .i64 b, .int .i64 i, .int .i64 f, .int .i64 c] 23 (0, 0)) BKgc.out hb)
      clear BKgc
      have BKgc := n_BKgc
      clear n_BKgc
      have n_BKgd := Aside0.mk (blk_below (g := w2.heap.size) (o := .cells #[.int .i64 (wrap64 (t + 1)), .int .i64 b, .int .i64 i, .int .i64 f, .int .i64 c] 23 (0, 0)) BKgd.out hb)
      clear BKgd
      have BKgd := n_BKgd
      clear n_BKgd
      have n1_ := Aside0.mk (below_step HB.out hb)
      clear HB hb
      have HB := n1_
      clear n1_
      refine hK.out _ _ ⟨(blk_cell BKgc.out 0).trans rfl, (blk_cell BKgc.out 1).trans rfl, (blk_cell BKgc.out 2).trans rfl, (blk_cell BKgc.out 3).trans rfl, (blk_cell BKgc.out 4).trans rfl, (blk_cell BKgd.out 0).trans rfl, (blk_cell BKgd.out 1).trans rfl, (blk_cell BKgd.out 2).trans rfl, (blk_cell BKgd.out 3).trans rfl, (blk_cell BKgd.out 4).trans rfl⟩ (fun hHeld => ?_)
      clear hK K
      refine norm_ (a' := ?_) ?_ ?_
      rotate_left
      · show Act.put _ (some 70) _ = _
        simp only [Act.put, List.setIfInBounds_toArray, List.set_cons_zero, List.set_cons_succ, i64_w, i32_w]
        rfl
      refine one_ (i := 34) (N := some 74) #[true, true, true, true, true, true, true, true, true, true, true, true, true, true, true, true, true, true, true, true, true, true, true, true, true, true, true, true, true, true, true, true, true, true, true, false, false, false] rfl rfl (one_of HT_.out (by kernel_rfl)) (by decide) (fun K hK => ?_)
      refine goes_ Try.func12 (by kernel_rfl) rfl #[.agg #[.int .i64 (wrap64 (t + 1)), .int .i64 b, .int .i64 i, .int .i64 f, .int .i64 c], .int .i64 (wrap64 (wrap64 n0 + wrap64 p)), .int .i64 (wrap64 (wrap64 n1 + wrap64 q))] (by rfl) rfl rfl (by (try simp only [List.map_toArray, List.map_cons, List.map_nil]); first | done | rfl) ?_
      with_reducible refine (bound_Scan.calls k (wrap64 (t + 1)) b i f c (wrap64 (wrap64 n0 + wrap64 p)) (wrap64 (wrap64 n1 + wrap64 q)) v3 _ Hv3.out).mono ?_
      rintro e w8 ⟨rfl, hb⟩
      refine ⟨_, rfl, ?_⟩
      have n_BKgc := Aside0.mk (blk_below (g := gc) (o := .cells #[.int .i64 t, .int .i64 b, .int .i64 i, .int .i64 f, .int .i64 c] 23 (0, 0)) BKgc.out hb)
      clear BKgc
      have BKgc := n_BKgc
      clear n_BKgc
      have n_BKgd := Aside0.mk (blk_below (g := w2.heap.size) (o := .cells #[.int .i64 (wrap64 (t + 1)), .int .i64 b, .int .i64 i, .int .i64 f, .int .i64 c] 23 (0, 0)) BKgd.out hb)
      clear BKgd
      have BKgd := n_BKgd
      clear n_BKgd
      have n1_ := Aside0.mk (below_step HB.out hb)
      clear HB hb
      have HB := n1_
      clear n1_
      refine hK.out _ _ ⟨(blk_cell BKgc.out 0).trans rfl, (blk_cell BKgc.out 1).trans rfl, (blk_cell BKgc.out 2).trans rfl, (blk_cell BKgc.out 3).trans rfl, (blk_cell BKgc.out 4).trans rfl, (blk_cell BKgd.out 0).trans rfl, (blk_cell BKgd.out 1).trans rfl, (blk_cell BKgd.out 2).trans rfl, (blk_cell BKgd.out 3).trans rfl, (blk_cell BKgd.out 4).trans rfl⟩ (fun hHeld => ?_)
      clear hK K
      refine norm_ (a' := ?_) ?_ ?_
      rotate_left
      · show Act.put _ (some 74) _ = _
        simp only [Act.put, List.setIfInBounds_toArray, List.set_cons_zero, List.set_cons_succ, i64_w, i32_w]
        rfl
      refine pure_ (i := 35) (N := some 75) (v := ?_) (a' := ?_) #[true, true, true, true, true, true, true, true, true, true, true, true, true, true, true, true, true, true, true, true, true, true, true, true, true, true, true, true, true, true, true, true, true, true, true, true, false, false] rfl rfl (any_of HT_.out (by kernel_rfl)) (fun _ _ _ h => h) (Or.inl ⟨by rfl, ?_⟩) ?_ ?_
      rotate_left
      · intro w'
        go_simp
        with_reducible rfl
      rotate_left
      · simp only [Act.put, List.setIfInBounds_toArray, List.set_cons_zero, List.set_cons_succ, i64_w, i32_w]
        rfl
      refine pure_ (i := 36) (N := some 76) (v := ?_) (a' := ?_) #[true, true, true, true, true, true, true, true, true, true, true, true, true, true, true, true, true, true, true, true, true, true, true, true, true, true, true, true, true, true, true, true, true, true, true, true, true, false] rfl rfl (any_of HT_.out (by kernel_rfl)) (fun _ _ _ h => h) (Or.inl ⟨by rfl, ?_⟩) ?_ ?_
      rotate_left
      · intro w'
        go_simp
        with_reducible rfl
      rotate_left
      · simp only [Act.put, List.setIfInBounds_toArray, List.set_cons_zero, List.set_cons_succ, i64_w, i32_w]
        rfl
      refine pure_ (i := 37) (N := some 6) (v := ?_) (a' := ?_) #[true, true, true, true, true, true, true, true, true, true, true, true, true, true, true, true, true, true, true, true, true, true, true, true, true, true, true, true, true, true, true, true, true, true, true, true, true, true] rfl rfl (any_of HT_.out (by kernel_rfl)) (fun _ _ _ h => h) (Or.inl ⟨by rfl, ?_⟩) ?_ ?_
      rotate_left
      · intro w'
        go_simp
        with_reducible rfl
      rotate_left
      · simp only [Act.put, List.setIfInBounds_toArray, List.set_cons_zero, List.set_cons_succ, i64_w, i32_w]
        rfl
      refine done_ (done_of HT_.out (by kernel_rfl)) ?_
      go_wp2
      go_ret
      exact ⟨by first | rfl | (simp; done), by repeat (first | (with_reducible first | exact HB.out | apply below_alloc | apply pw_below_drewN | apply below_drew1) | exact HB.out)⟩
  · rw [if_neg c1] at h
    obtain rfl := Option.some.inj h
    clear h
    have c1b : (m != 0) = true := bne_iff_ne.mpr c1
    clear c1
    go_enter Try.func5, Try.ntmps5
    go_wp2_with (first | ((with_reducible refine gate_dst (N := 3) rfl ?_); refine box_event ?hg (N := 3) ?hd (cs := #[.int .i64 t, .int .i64 b, .int .i64 i, .int .i64 f, .int .i64 c]) (t := 23) ?hr ?_; (case hd => rfl); (case hg => rfl); (case hr => first | (go_simp; done) | (go_simp; rfl)); intro gc hg wb_gc hbox hb; have BKgc := Aside0.mk hbox; have n0_ := Aside0.mk (below_step HB.out hb); clear HB; have HB := n0_; clear n0_; clear hb hbox hg) | ((with_reducible refine gate_dst (N := 4) rfl ?_); refine box_event ?hg (N := 4) ?hd (cs := #[.int .u16 n0, .int .u16 n1]) (t := 44) ?hr ?_; (case hd => rfl); (case hg => rfl); (case hr => first | (go_simp; done) | (go_simp; rfl)); intro gn hg wb_gn hbox hb; have BKgn := Aside0.mk hbox; have n_BKgc := Aside0.mk (blk_below (g := gc) (o := .cells #[.int .i64 t, .int .i64 b, .int .i64 i, .int .i64 f, .int .i64 c] 23 (0, 0)) BKgc.out hb); clear BKgc; have BKgc := n_BKgc; clear n_BKgc; have n0_ := Aside0.mk (below_step HB.out hb); clear HB; have HB := n0_; clear n0_; clear hb hbox hg) | ((with_reducible refine gate_dst (N := 5) rfl ?_); refine box_event ?hg (N := 5) ?hd (cs := #[.int .u16 p, .int .u16 q]) (t := 44) ?hr ?_; (case hd => rfl); (case hg => rfl); (case hr => first | (go_simp; done) | (go_simp; rfl)); intro gm hg wb_gm hbox hb; have BKgm := Aside0.mk hbox; have n_BKgc := Aside0.mk (blk_below (g := gc) (o := .cells #[.int .i64 t, .int .i64 b, .int .i64 i, .int .i64 f, .int .i64 c] 23 (0, 0)) BKgc.out hb); clear BKgc; have BKgc := n_BKgc; clear n_BKgc; have n_BKgn := Aside0.mk (blk_below (g := gn) (o := .cells #[.int .u16 n0, .int .u16 n1] 44 (0, 0)) BKgn.out hb); clear BKgn; have BKgn := n_BKgn; clear n_BKgn; have n0_ := Aside0.mk (below_step HB.out hb); clear HB; have HB := n0_; clear n0_; clear hb hbox hg) | (go_at_call 8; (with_reducible refine (corrielaw23_awake.calls true _ rfl).mono ?_); rintro e w1 ⟨rfl, hb⟩; have n_BKgc := Aside0.mk (blk_below (g := gc) (o := .cells #[.int .i64 t, .int .i64 b, .int .i64 i, .int .i64 f, .int .i64 c] 23 (0, 0)) BKgc.out hb); clear BKgc; have BKgc := n_BKgc; clear n_BKgc; have n_BKgn := Aside0.mk (blk_below (g := gn) (o := .cells #[.int .u16 n0, .int .u16 n1] 44 (0, 0)) BKgn.out hb); clear BKgn; have BKgn := n_BKgn; clear n_BKgn; have n_BKgm := Aside0.mk (blk_below (g := gm) (o := .cells #[.int .u16 p, .int .u16 q] 44 (0, 0)) BKgm.out hb); clear BKgm; have BKgm := n_BKgm; clear n_BKgm; have n0_ := Aside0.mk (below_step HB.out hb); clear HB hb; have HB := n0_; clear n0_; have cw1gc_0 : w1.cell? ⟨gc, 0, none⟩ = some (.int .i64 t) := (blk_cell BKgc.out 0).trans rfl; have cw1gc_1 : w1.cell? ⟨gc, 1, none⟩ = some (.int .i64 b) := (blk_cell BKgc.out 1).trans rfl; have cw1gc_2 : w1.cell? ⟨gc, 2, none⟩ = some (.int .i64 i) := (blk_cell BKgc.out 2).trans rfl; have cw1gc_3 : w1.cell? ⟨gc, 3, none⟩ = some (.int .i64 f) := (blk_cell BKgc.out 3).trans rfl; have cw1gc_4 : w1.cell? ⟨gc, 4, none⟩ = some (.int .i64 c) := (blk_cell BKgc.out 4).trans rfl; have cw1gn_0 : w1.cell? ⟨gn, 0, none⟩ = some (.int .u16 n0) := (blk_cell BKgn.out 0).trans rfl; have cw1gn_1 : w1.cell? ⟨gn, 1, none⟩ = some (.int .u16 n1) := (blk_cell BKgn.out 1).trans rfl; have cw1gm_0 : w1.cell? ⟨gm, 0, none⟩ = some (.int .u16 p) := (blk_cell BKgm.out 0).trans rfl; have cw1gm_1 : w1.cell? ⟨gm, 1, none⟩ = some (.int .u16 q) := (blk_cell BKgm.out 1).trans rfl; have zw1gc : gc < w1.heap.size := blk_lt BKgc.out; have zw1gn : gn < w1.heap.size := blk_lt BKgn.out; have zw1gm : gm < w1.heap.size := blk_lt BKgm.out) | (go_at_call 9; (with_reducible refine (corrieref04_May.calls k t b i f c m _ Hm.out).mono ?_); rintro e w2 ⟨rfl, hb⟩; have n_BKgc := Aside0.mk (blk_below (g := gc) (o := .cells #[.int .i64 t, .int .i64 b, .int .i64 i, .int .i64 f, .int .i64 c] 23 (0, 0)) BKgc.out hb); clear BKgc; have BKgc := n_BKgc; clear n_BKgc; have n_BKgn := Aside0.mk (blk_below (g := gn) (o := .cells #[.int .u16 n0, .int .u16 n1] 44 (0, 0)) BKgn.out hb); clear BKgn; have BKgn := n_BKgn; clear n_BKgn; have n_BKgm := Aside0.mk (blk_below (g := gm) (o := .cells #[.int .u16 p, .int .u16 q] 44 (0, 0)) BKgm.out hb); clear BKgm; have BKgm := n_BKgm; clear n_BKgm; have n0_ := Aside0.mk (below_step HB.out hb); clear HB hb; have HB := n0_; clear n0_; have cw2gc_0 : w2.cell? ⟨gc, 0, none⟩ = some (.int .i64 t) := (blk_cell BKgc.out 0).trans rfl; have cw2gc_1 : w2.cell? ⟨gc, 1, none⟩ = some (.int .i64 b) := (blk_cell BKgc.out 1).trans rfl; have cw2gc_2 : w2.cell? ⟨gc, 2, none⟩ = some (.int .i64 i) := (blk_cell BKgc.out 2).trans rfl; have cw2gc_3 : w2.cell? ⟨gc, 3, none⟩ = some (.int .i64 f) := (blk_cell BKgc.out 3).trans rfl; have cw2gc_4 : w2.cell? ⟨gc, 4, none⟩ = some (.int .i64 c) := (blk_cell BKgc.out 4).trans rfl; have cw2gn_0 : w2.cell? ⟨gn, 0, none⟩ = some (.int .u16 n0) := (blk_cell BKgn.out 0).trans rfl; have cw2gn_1 : w2.cell? ⟨gn, 1, none⟩ = some (.int .u16 n1) := (blk_cell BKgn.out 1).trans rfl; have cw2gm_0 : w2.cell? ⟨gm, 0, none⟩ = some (.int .u16 p) := (blk_cell BKgm.out 0).trans rfl; have cw2gm_1 : w2.cell? ⟨gm, 1, none⟩ = some (.int .u16 q) := (blk_cell BKgm.out 1).trans rfl; have zw2gc : gc < w2.heap.size := blk_lt BKgc.out; have zw2gn : gn < w2.heap.size := blk_lt BKgn.out; have zw2gm : gm < w2.heap.size := blk_lt BKgm.out))
    go_ret
    exact ⟨rfl, by repeat (first | (with_reducible first | exact HB.out | apply below_alloc | apply pw_below_drewN | apply below_drew1) | exact HB.out)⟩
theorem corrielaw23_BoundRises.calls (k : Nat) (a0_0 : Int) (a0_1 : Int) (a0_2 : Int) (a0_3 : Int) (a0_4 : Int) (a1_0 : Int) (a1_1 : Int) (a2_0 : Int) (a2_1 : Int) (r : Bool) (w : World) (h : corrielaw23_BoundRises.f k a0_0 a0_1 a0_2 a0_3 a0_4 a1_0 a1_1 a2_0 a2_1 = some r) :
    Calls Try.prog 5 #[.agg #[.int .i64 a0_0, .int .i64 a0_1, .int .i64 a0_2, .int .i64 a0_3, .int .i64 a0_4], .agg #[.int .u16 a1_0, .int .u16 a1_1], .agg #[.int .u16 a2_0, .int .u16 a2_1]] w fun e w' => e = .returned (.bool r) ∧ Below w.heap.size w w' := by
  exact corrielaw23_BoundRises.law k a0_0 a0_1 a0_2 a0_3 a0_4 a1_0 a1_1 a2_0 a2_1 r w h


end Go.Proofs.Ytpcmoclohepdiab.PBoundRises
