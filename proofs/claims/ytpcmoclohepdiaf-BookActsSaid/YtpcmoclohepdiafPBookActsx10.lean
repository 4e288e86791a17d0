-- Written by a program of this session: a variant of the print that takes proofs by hand (wip/tools/mkprint.py)
import Derived.Test.YtpcmoclohepdiafPBookActsx0
import Derived.Test.YtpcmoclohepdiafPBookActsx9
namespace Go.Proofs.Ytpcmoclohepdiaf.PBookActs
open Go.RowKit Go.Proofs.YtpcmoclohepdiafW.PrintWords Go.Proofs.YtpcmoclohepdiafW.PrintLast
set_option linter.unusedVariables false
set_option linter.unusedSimpArgs false

/-! ### corrieref07_Key: function 18 -/
def corrieref07_Key.f (k : Nat) (a0_0 : Int) (a0_1 : Int) (a0_2 : Int) (a0_3 : Int) (a0_4 : Int) (l0_5 : List Int) (l0_6 : List Int) (l0_7 : List Int) (l0_8 : List (S60)) (l0_9 : List (S62)) (a1 : Int) : Option (Int) := (corrieref07_Carried.f k a0_0 a0_1 a0_2 a0_3 a0_4 l0_5 l0_6 l0_7 l0_8 l0_9 a1).bind fun t162 => ((corrieref07_Call.f k a0_0 a0_1 a0_2 a0_3 a0_4 l0_5 l0_6 l0_7 l0_8 l0_9 t162).bind fun bt163 => (some bt163.2.1))
theorem corrieref07_Key.mono : ∀ a0 a1 a2 a3 a4 a5 a6 a7 a8 a9 a10 k, LeO (corrieref07_Key.f k a0 a1 a2 a3 a4 a5 a6 a7 a8 a9 a10) (corrieref07_Key.f (k + 1) a0 a1 a2 a3 a4 a5 a6 a7 a8 a9 a10) := by
 intro a0 a1 a2 a3 a4 a5 a6 a7 a8 a9 a10 k
 unfold corrieref07_Key.f
 repeat' first
   | (with_reducible exact corrieref07_Call.mono _ _ _ _ _ _ _ _ _ _ _ _)
   | (with_reducible exact corrieref07_Carried.mono _ _ _ _ _ _ _ _ _ _ _ _)
   | (with_reducible exact LeO.refl _)
   | (with_reducible exact LeO.none _)
   | (with_reducible refine LeO.ite ?_ ?_)
   | (with_reducible refine LeO.bind ?_ (fun _ => ?_))
   | exact corrieref07_Call.mono _ _ _ _ _ _ _ _ _ _ _ _
   | exact corrieref07_Carried.mono _ _ _ _ _ _ _ _ _ _ _ _
   | exact LeO.none _
   | refine LeO.ite ?_ ?_
   | refine LeO.bind ?_ (fun _ => ?_)
def corrieref07_Key.T1 : Bool × List (List Nat × List Nat) := (true, [([], []), ([], []), ([], []), ([1, 2], [1, 2]), ([0, 3, 3], [0, 3]), ([4], [4]), ([5], [5]), ([5], [5]), ([], []), ([8, 6, 4, 0, 1, 2, 3, 4, 5, 6, 8], [6, 8]), ([7, 9, 0, 1, 2, 3, 4, 5, 6, 7, 8, 9], [7])])
def corrieref07_Key.B1 : List Nat := [0, 0, 0, 6, 15, 31, 63, 63, 0, 383, 1023]
theorem corrieref07_Key.tab1 : rtab .any (opsOf Try.f18 1) = corrieref07_Key.T1 := by kernel_rfl
theorem corrieref07_Key.bits1 : waitsOk corrieref07_Key.T1.2 corrieref07_Key.B1 = true := by kernel_rfl
set_option maxHeartbeats 8000000 in
set_option maxRecDepth 100000 in
theorem corrieref07_Key.calls (k : Nat) (a0_0 : Int) (a0_1 : Int) (a0_2 : Int) (a0_3 : Int) (a0_4 : Int) (A0_5 : Option Addr) (c0_5 : Nat) (l0_5 : List Int) (A0_6 : Option Addr) (c0_6 : Nat) (l0_6 : List Int) (A0_7 : Option Addr) (c0_7 : Nat) (l0_7 : List Int) (A0_8 : Option Addr) (c0_8 : Nat) (l0_8 : List (S60)) (A0_9 : Option Addr) (c0_9 : Nat) (l0_9 : List (S62)) (a1 : Int) (r : Int) (w : World) (hr0_5 : Kd.C (Kd.int .i64) w A0_5 l0_5.length l0_5) (hc0_5 : l0_5.length ≤ c0_5) (hr0_6 : Kd.C (Kd.int .i64) w A0_6 l0_6.length l0_6) (hc0_6 : l0_6.length ≤ c0_6) (hr0_7 : Kd.C (Kd.int .i64) w A0_7 l0_7.length l0_7) (hc0_7 : l0_7.length ≤ c0_7) (hr0_8 : Kd.C k60 w A0_8 l0_8.length l0_8) (hc0_8 : l0_8.length ≤ c0_8) (hr0_9 : Kd.C k62 w A0_9 l0_9.length l0_9) (hc0_9 : l0_9.length ≤ c0_9) (h : corrieref07_Key.f k a0_0 a0_1 a0_2 a0_3 a0_4 l0_5 l0_6 l0_7 l0_8 l0_9 a1 = some r) :
  Calls Try.prog 18 #[.agg #[.int .i64 a0_0, .int .i64 a0_1, .int .i64 a0_2, .int .i64 a0_3, .int .i64 a0_4, .slice A0_5 l0_5.length c0_5, .slice A0_6 l0_6.length c0_6, .slice A0_7 l0_7.length c0_7, .slice A0_8 l0_8.length c0_8, .slice A0_9 l0_9.length c0_9], .int .i64 a1] w fun e w' => e = .returned (.int .u64 r) ∧ Below w.heap.size w w' := by
 have hu32 := Try.underlying32
 have hu38 := Try.underlying38
 have HR0_5 := Aside0.mk hr0_5
 have HC0_5 := Aside0.mk hc0_5
 clear hr0_5 hc0_5
 have HR0_6 := Aside0.mk hr0_6
 have HC0_6 := Aside0.mk hc0_6
 clear hr0_6 hc0_6
 have HR0_7 := Aside0.mk hr0_7
 have HC0_7 := Aside0.mk hc0_7
 clear hr0_7 hc0_7
 have HR0_8 := Aside0.mk hr0_8
 have HC0_8 := Aside0.mk hc0_8
 clear hr0_8 hc0_8
 have HR0_9 := Aside0.mk hr0_9
 have HC0_9 := Aside0.mk hc0_9
 clear hr0_9 hc0_9
 have HB := Aside0.mk (Below.refl w.heap.size w)
 have H : ((corrieref07_Carried.f k a0_0 a0_1 a0_2 a0_3 a0_4 l0_5 l0_6 l0_7 l0_8 l0_9 a1).bind fun t162 => ((corrieref07_Call.f k a0_0 a0_1 a0_2 a0_3 a0_4 l0_5 l0_6 l0_7 l0_8 l0_9 t162).bind fun bt163 => (some bt163.2.1))) = some r := h
 clear h
 replace H := Option.bind_eq_some_iff.mp H
 obtain ⟨t162, A30, H⟩ := H
 replace H : ((corrieref07_Call.f k a0_0 a0_1 a0_2 a0_3 a0_4 l0_5 l0_6 l0_7 l0_8 l0_9 t162).bind fun bt163 => (some bt163.2.1)) = some r := H
 have A3 := Aside0.mk A30
 clear A30
 replace H := Option.bind_eq_some_iff.mp H
 obtain ⟨⟨t163, t164, t165, t166, t167⟩, A40, H⟩ := H
 replace H : (some t164) = some r := H
 have A4 := Aside0.mk A40
 clear A40
 obtain rfl := Option.some.inj H
 go_enter Try.func18, Try.ntmps18
 try go_wp2_with (first | ((with_reducible refine gate_dst (N := 2) rfl ?_); refine box_event ?hg (N := 2) ?hd (cs := #[.int .i64 a0_0, .int .i64 a0_1, .int .i64 a0_2, .int .i64 a0_3, .int .i64 a0_4, .slice A0_5 l0_5.length c0_5, .slice A0_6 l0_6.length c0_6, .slice A0_7 l0_7.length c0_7, .slice A0_8 l0_8.length c0_8, .slice A0_9 l0_9.length c0_9]) (t := 32) ?hr ?_; (case hd => rfl); (case hg => rfl); (case hr => first | (go_simp; done) | (go_simp; rfl)); intro gb161 hg w5 hbox hb; have n0_ := Aside0.mk (below_step (by repeat (first | (with_reducible first | exact HB.out | apply below_alloc | apply pw_below_drewN | apply below_drew1) | exact HB.out)) hb); have n1_ := Aside0.mk (hbox); have n2_ := Aside0.mk ((by rw [hg]; exact (below_size (by repeat (first | (with_reducible first | exact HB.out | apply below_alloc | apply pw_below_drewN | apply below_drew1) | exact HB.out))) : w.heap.size ≤ gb161)); have n3_ := Aside0.mk ((by rw [hg]; exact (below_size (by repeat (first | (with_reducible first | exact HB.out | apply below_alloc | apply pw_below_drewN | apply below_drew1) | exact HB.out))) : w.heap.size ≤ gb161)); clear HB; have HB := n0_; have BK161 := n1_; have GW161 := n2_; have GE161 := n3_; clear n0_ n1_ n2_ n3_; clear hb hbox hg))
 have n0_ := Aside0.mk (blk_drew BK161.out)
 have n1_ := Aside0.mk (below_drew1 HB.out)
 clear BK161
 clear HB
 have BK161 := n0_
 have HB := n1_
 clear n0_ n1_
 refine start_ (n := 11) (S := fun w' => w'.cell? ⟨gb161, 0, none⟩ = some (.int .i64 a0_0) ∧ w'.cell? ⟨gb161, 1, none⟩ = some (.int .i64 a0_1) ∧ w'.cell? ⟨gb161, 2, none⟩ = some (.int .i64 a0_2) ∧ w'.cell? ⟨gb161, 3, none⟩ = some (.int .i64 a0_3) ∧ w'.cell? ⟨gb161, 4, none⟩ = some (.int .i64 a0_4) ∧ w'.cell? ⟨gb161, 5, none⟩ = some (.slice A0_5 l0_5.length c0_5) ∧ w'.cell? ⟨gb161, 6, none⟩ = some (.slice A0_6 l0_6.length c0_6) ∧ w'.cell? ⟨gb161, 7, none⟩ = some (.slice A0_7 l0_7.length c0_7) ∧ w'.cell? ⟨gb161, 8, none⟩ = some (.slice A0_8 l0_8.length c0_8) ∧ w'.cell? ⟨gb161, 9, none⟩ = some (.slice A0_9 l0_9.length c0_9)) (ds := []) #[false, false, false, false, false, false, false, false, false, false, false] (by kernel_rfl) rfl rfl ⟨(blk_cell BK161.out 0).trans rfl, (blk_cell BK161.out 1).trans rfl, (blk_cell BK161.out 2).trans rfl, (blk_cell BK161.out 3).trans rfl, (blk_cell BK161.out 4).trans rfl, (blk_cell BK161.out 5).trans rfl, (blk_cell BK161.out 6).trans rfl, (blk_cell BK161.out 7).trans rfl, (blk_cell BK161.out 8).trans rfl, (blk_cell BK161.out 9).trans rfl⟩ (fun hHeld => ?_); refine with_tabW corrieref07_Key.tab1 corrieref07_Key.bits1 (fun HT_ HW_ => ?_)
 generalize w5.drew = w6 at BK161 HB hHeld ⊢
 refine pure_ (i := 2) (N := some 10) (v := ?_) (a' := ?_) #[false, false, true, false, false, false, false, false, false, false, false] rfl rfl (any_of HT_.out (by kernel_rfl)) (fun _ _ _ h => h) (Or.inl ⟨by rfl, ?_⟩) ?_ ?_
 rotate_left
 ·intro w'
  go_simp
  with_reducible rfl
 rotate_left
 ·simp only [Act.put, List.setIfInBounds_toArray, List.set_cons_zero, List.set_cons_succ, i64_w, i32_w]
  rfl
 refine take_ (i := 0) (N := some 8) (v := ?_) (a' := ?_) #[true, false, true, false, false, false, false, false, false, false, false] rfl rfl (take_ofW HT_.out HW_.out (by kernel_rfl)) (fun _ _ _ h => h) (Or.inl ⟨by rfl, ?_⟩) hHeld ?_ ?_
 rotate_left
 ·rintro w' ⟨s0, s1, s2, s3, s4, s5, s6, s7, s8, s9⟩
  go_simp
  with_reducible rfl
 rotate_left
 ·simp only [Act.put, List.setIfInBounds_toArray, List.set_cons_zero, List.set_cons_succ, i64_w, i32_w]
  rfl
 refine take_ (i := 1) (N := some 9) (v := ?_) (a' := ?_) #[true, true, true, false, false, false, false, false, false, false, false] rfl rfl (take_ofW HT_.out HW_.out (by kernel_rfl)) (fun _ _ _ h => h) (Or.inl ⟨by rfl, ?_⟩) hHeld ?_ ?_
 rotate_left
 ·rintro w' ⟨s0, s1, s2, s3, s4, s5, s6, s7, s8, s9⟩
  go_simp
  with_reducible rfl
 rotate_left
 ·simp only [Act.put, List.setIfInBounds_toArray, List.set_cons_zero, List.set_cons_succ, i64_w, i32_w]
  rfl
 refine join_ (σ := Nat) 2 #[true, true, true, true, true, true, true, true, true, false, false] (fun s_ => [(11, .int .i64 t162), (12, .tuple #[.agg #[.int .i64 t163, .int .u64 t164, .int .u64 t165, .int .i64 t166], .int .i64 t167]), (5, .pointer (some ⟨s_, 0, none⟩)), (7, .tuple #[.agg #[.int .i64 t163, .int .u64 t164, .int .u64 t165, .int .i64 t166], .int .i64 t167]), (13, .agg #[.int .i64 t163, .int .u64 t164, .int .u64 t165, .int .i64 t166]), (14, .int .i64 t167)]) (fun s_ w' => (w'.cell? ⟨gb161, 0, none⟩ = some (.int .i64 a0_0) ∧ w'.cell? ⟨gb161, 1, none⟩ = some (.int .i64 a0_1) ∧ w'.cell? ⟨gb161, 2, none⟩ = some (.int .i64 a0_2) ∧ w'.cell? ⟨gb161, 3, none⟩ = some (.int .i64 a0_3) ∧ w'.cell? ⟨gb161, 4, none⟩ = some (.int .i64 a0_4) ∧ w'.cell? ⟨gb161, 5, none⟩ = some (.slice A0_5 l0_5.length c0_5) ∧ w'.cell? ⟨gb161, 6, none⟩ = some (.slice A0_6 l0_6.length c0_6) ∧ w'.cell? ⟨gb161, 7, none⟩ = some (.slice A0_7 l0_7.length c0_7) ∧ w'.cell? ⟨gb161, 8, none⟩ = some (.slice A0_8 l0_8.length c0_8) ∧ w'.cell? ⟨gb161, 9, none⟩ = some (.slice A0_9 l0_9.length c0_9)) ∧ (w'.heap[gb161]? = some (.cells #[.int .i64 a0_0, .int .i64 a0_1, .int .i64 a0_2, .int .i64 a0_3, .int .i64 a0_4, .slice A0_5 l0_5.length c0_5, .slice A0_6 l0_6.length c0_6, .slice A0_7 l0_7.length c0_7, .slice A0_8 l0_8.length c0_8, .slice A0_9 l0_9.length c0_9] 32 (0, 0))) ∧ (w'.heap[s_]? = some (.cells #[.int .i64 0, .int .u64 0, .int .u64 0, .int .i64 0] 38 (0, 0))) ∧ (w.heap.size ≤ s_) ∧ (w.heap.size ≤ s_) ∧ (gb161 ≠ s_) ∧ (s_ ≠ gb161) ∧ (Below w.heap.size w w')) ?_ ?_
 rotate_left
 ·intro hCont
  refine two_ (i := 3) (j := 8) (Ni := some 11) (Nj := some 5) #[true, true, true, true, false, false, false, false, false, false, false] #[true, true, true, false, false, false, false, false, true, false, false] rfl rfl rfl rfl (two_of HT_.out (by kernel_rfl)) (by decide) (by decide) (fun K hK => ?_) (fun K hK => ?_)
  ·skip
   refine goes_ Try.func16 (by kernel_rfl) rfl #[.agg #[.int .i64 a0_0, .int .i64 a0_1, .int .i64 a0_2, .int .i64 a0_3, .int .i64 a0_4, .slice A0_5 l0_5.length c0_5, .slice A0_6 l0_6.length c0_6, .slice A0_7 l0_7.length c0_7, .slice A0_8 l0_8.length c0_8, .slice A0_9 l0_9.length c0_9], .int .i64 a1] (by rfl) rfl rfl (by (try simp only [List.map_toArray, List.map_cons, List.map_nil]); first | done | rfl | (simp only [List.length_drop, List.length_take]; rfl)) ?_
   with_reducible refine (corrieref07_Carried.calls k a0_0 a0_1 a0_2 a0_3 a0_4 _ _ l0_5 _ _ l0_6 _ _ l0_7 _ _ l0_8 _ _ l0_9 a1 t162 _ ?side1 ?side2 ?side3 ?side4 ?side5 ?side6 ?side7 ?side8 ?side9 ?side10 A3.out).mono ?_
   (case side1 => repeat (first | exact (Kd.C_below HR0_5.out HB.out) | (with_reducible refine Kd.C_alloc ?_ _) | (with_reducible refine Kd.C_drewN ?_ _) | (with_reducible refine Kd.C_drew ?_)))
   (case side2 => exact HC0_5.out)
   (case side3 => repeat (first | exact (Kd.C_below HR0_6.out HB.out) | (with_reducible refine Kd.C_alloc ?_ _) | (with_reducible refine Kd.C_drewN ?_ _) | (with_reducible refine Kd.C_drew ?_)))
   (case side4 => exact HC0_6.out)
   (case side5 => repeat (first | exact (Kd.C_below HR0_7.out HB.out) | (with_reducible refine Kd.C_alloc ?_ _) | (with_reducible refine Kd.C_drewN ?_ _) | (with_reducible refine Kd.C_drew ?_)))
   (case side6 => exact HC0_7.out)
   (case side7 => repeat (first | exact (Kd.C_below HR0_8.out HB.out) | (with_reducible refine Kd.C_alloc ?_ _) | (with_reducible refine Kd.C_drewN ?_ _) | (with_reducible refine Kd.C_drew ?_)))
   (case side8 => exact HC0_8.out)
   (case side9 => repeat (first | exact (Kd.C_below HR0_9.out HB.out) | (with_reducible refine Kd.C_alloc ?_ _) | (with_reducible refine Kd.C_drewN ?_ _) | (with_reducible refine Kd.C_drew ?_)))
   (case side10 => exact HC0_9.out)
   rintro e w7 ⟨rfl, hb⟩
   refine ⟨_, rfl, ?_⟩
   have n0_ := Aside0.mk (blk_below (g := gb161) (o := .cells #[.int .i64 a0_0, .int .i64 a0_1, .int .i64 a0_2, .int .i64 a0_3, .int .i64 a0_4, .slice A0_5 l0_5.length c0_5, .slice A0_6 l0_6.length c0_6, .slice A0_7 l0_7.length c0_7, .slice A0_8 l0_8.length c0_8, .slice A0_9 l0_9.length c0_9] 32 (0, 0)) (by (with_reducible repeat (first | refine blk_drewN ?_ _ | refine blk_drew ?_ | refine blk_alloc ?_ _)); exact BK161.out) hb)
   have n1_ := Aside0.mk (below_step (by repeat (first | (with_reducible first | exact HB.out | apply below_alloc | apply pw_below_drewN | apply below_drew1 | refine below_set ?_ GE161.out) | exact HB.out)) hb)
   clear BK161
   clear HB
   have BK161 := n0_
   have HB := n1_
   clear n0_ n1_
   (try clear hb)
   (try clear hb2)
   (try clear hk)
   (try clear hi)
   refine hK.out _ _ ⟨(blk_cell BK161.out 0).trans rfl, (blk_cell BK161.out 1).trans rfl, (blk_cell BK161.out 2).trans rfl, (blk_cell BK161.out 3).trans rfl, (blk_cell BK161.out 4).trans rfl, (blk_cell BK161.out 5).trans rfl, (blk_cell BK161.out 6).trans rfl, (blk_cell BK161.out 7).trans rfl, (blk_cell BK161.out 8).trans rfl, (blk_cell BK161.out 9).trans rfl⟩ (fun hHeld => ?_)
   clear hK K
   refine norm_ (a' := ?_) ?_ ?_
   rotate_left
   ·show Act.put _ (some 11) _ = _
    simp only [Act.put, List.setIfInBounds_toArray, List.set_cons_zero, List.set_cons_succ, i64_w, i32_w]
    rfl
   refine two_ (i := 4) (j := 8) (Ni := some 12) (Nj := some 5) #[true, true, true, true, true, false, false, false, false, false, false] #[true, true, true, true, false, false, false, false, true, false, false] rfl rfl rfl rfl (two_of HT_.out (by kernel_rfl)) (by decide) (by decide) (fun K hK => ?_) (fun K hK => ?_)
   ·skip
    refine goes_ Try.func13 (by kernel_rfl) rfl #[.agg #[.int .i64 a0_0, .int .i64 a0_1, .int .i64 a0_2, .int .i64 a0_3, .int .i64 a0_4, .slice A0_5 l0_5.length c0_5, .slice A0_6 l0_6.length c0_6, .slice A0_7 l0_7.length c0_7, .slice A0_8 l0_8.length c0_8, .slice A0_9 l0_9.length c0_9], .int .i64 t162] (by rfl) rfl rfl (by (try simp only [List.map_toArray, List.map_cons, List.map_nil]); first | done | rfl | (simp only [List.length_drop, List.length_take]; rfl)) ?_
    with_reducible refine (corrieref07_Call.calls k a0_0 a0_1 a0_2 a0_3 a0_4 _ _ l0_5 _ _ l0_6 _ _ l0_7 _ _ l0_8 _ _ l0_9 t162 t163 t164 t165 t166 t167 _ ?side1 ?side2 ?side3 ?side4 ?side5 ?side6 ?side7 ?side8 ?side9 ?side10 A4.out).mono ?_
    (case side1 => repeat (first | exact (Kd.C_below HR0_5.out HB.out) | (with_reducible refine Kd.C_alloc ?_ _) | (with_reducible refine Kd.C_drewN ?_ _) | (with_reducible refine Kd.C_drew ?_)))
    (case side2 => exact HC0_5.out)
    (case side3 => repeat (first | exact (Kd.C_below HR0_6.out HB.out) | (with_reducible refine Kd.C_alloc ?_ _) | (with_reducible refine Kd.C_drewN ?_ _) | (with_reducible refine Kd.C_drew ?_)))
    (case side4 => exact HC0_6.out)
    (case side5 => repeat (first | exact (Kd.C_below HR0_7.out HB.out) | (with_reducible refine Kd.C_alloc ?_ _) | (with_reducible refine Kd.C_drewN ?_ _) | (with_reducible refine Kd.C_drew ?_)))
    (case side6 => exact HC0_7.out)
    (case side7 => repeat (first | exact (Kd.C_below HR0_8.out HB.out) | (with_reducible refine Kd.C_alloc ?_ _) | (with_reducible refine Kd.C_drewN ?_ _) | (with_reducible refine Kd.C_drew ?_)))
    (case side8 => exact HC0_8.out)
    (case side9 => repeat (first | exact (Kd.C_below HR0_9.out HB.out) | (with_reducible refine Kd.C_alloc ?_ _) | (with_reducible refine Kd.C_drewN ?_ _) | (with_reducible refine Kd.C_drew ?_)))
    (case side10 => exact HC0_9.out)
    rintro e w8 ⟨rfl, hb⟩
    refine ⟨_, rfl, ?_⟩
    have n0_ := Aside0.mk (blk_below (g := gb161) (o := .cells #[.int .i64 a0_0, .int .i64 a0_1, .int .i64 a0_2, .int .i64 a0_3, .int .i64 a0_4, .slice A0_5 l0_5.length c0_5, .slice A0_6 l0_6.length c0_6, .slice A0_7 l0_7.length c0_7, .slice A0_8 l0_8.length c0_8, .slice A0_9 l0_9.length c0_9] 32 (0, 0)) (by (with_reducible repeat (first | refine blk_drewN ?_ _ | refine blk_drew ?_ | refine blk_alloc ?_ _)); exact BK161.out) hb)
    have n1_ := Aside0.mk (below_step (by repeat (first | (with_reducible first | exact HB.out | apply below_alloc | apply pw_below_drewN | apply below_drew1 | refine below_set ?_ GE161.out) | exact HB.out)) hb)
    clear BK161
    clear HB
    have BK161 := n0_
    have HB := n1_
    clear n0_ n1_
    (try clear hb)
    (try clear hb2)
    (try clear hk)
    (try clear hi)
    refine hK.out _ _ ⟨(blk_cell BK161.out 0).trans rfl, (blk_cell BK161.out 1).trans rfl, (blk_cell BK161.out 2).trans rfl, (blk_cell BK161.out 3).trans rfl, (blk_cell BK161.out 4).trans rfl, (blk_cell BK161.out 5).trans rfl, (blk_cell BK161.out 6).trans rfl, (blk_cell BK161.out 7).trans rfl, (blk_cell BK161.out 8).trans rfl, (blk_cell BK161.out 9).trans rfl⟩ (fun hHeld => ?_)
    clear hK K
    refine norm_ (a' := ?_) ?_ ?_
    rotate_left
    ·show Act.put _ (some 12) _ = _
     simp only [Act.put, List.setIfInBounds_toArray, List.set_cons_zero, List.set_cons_succ, i64_w, i32_w]
     rfl
    refine pure_ (i := 5) (N := some 7) (v := ?_) (a' := ?_) #[true, true, true, true, true, true, false, false, false, false, false] rfl rfl (any_of HT_.out (by kernel_rfl)) (fun _ _ _ h => h) (Or.inl ⟨by rfl, ?_⟩) ?_ ?_
    rotate_left
    ·intro w'
     go_simp
     with_reducible rfl
    rotate_left
    ·simp only [Act.put, List.setIfInBounds_toArray, List.set_cons_zero, List.set_cons_succ, i64_w, i32_w]
     rfl
    refine pure_ (i := 6) (N := some 13) (v := ?_) (a' := ?_) #[true, true, true, true, true, true, true, false, false, false, false] rfl rfl (any_of HT_.out (by kernel_rfl)) (fun _ _ _ h => h) (Or.inl ⟨by rfl, ?_⟩) ?_ ?_
    rotate_left
    ·intro w'
     go_simp
     with_reducible rfl
    rotate_left
    ·simp only [Act.put, List.setIfInBounds_toArray, List.set_cons_zero, List.set_cons_succ, i64_w, i32_w]
     rfl
    refine pure_ (i := 7) (N := some 14) (v := ?_) (a' := ?_) #[true, true, true, true, true, true, true, true, false, false, false] rfl rfl (any_of HT_.out (by kernel_rfl)) (fun _ _ _ h => h) (Or.inl ⟨by rfl, ?_⟩) ?_ ?_
    rotate_left
    ·intro w'
     go_simp
     with_reducible rfl
    rotate_left
    ·simp only [Act.put, List.setIfInBounds_toArray, List.set_cons_zero, List.set_cons_succ, i64_w, i32_w]
     rfl
    refine one_ (i := 8) (N := some 5) #[true, true, true, true, true, true, true, true, true, false, false] rfl rfl (one_of HT_.out (by kernel_rfl)) (by decide) (fun K hK => ?_)
    refine box_step ?hg (N := 5) ?hd (cs := #[.int .i64 0, .int .u64 0, .int .u64 0, .int .i64 0]) (t := 38) ?hr ?_; (case hd => rfl); (case hg => rfl); (case hr => first | (go_simp; done) | (go_simp; rfl))
    intro gb168 hg w9 hbox hb
    have n0_ := Aside0.mk (blk_below (g := gb161) (o := .cells #[.int .i64 a0_0, .int .i64 a0_1, .int .i64 a0_2, .int .i64 a0_3, .int .i64 a0_4, .slice A0_5 l0_5.length c0_5, .slice A0_6 l0_6.length c0_6, .slice A0_7 l0_7.length c0_7, .slice A0_8 l0_8.length c0_8, .slice A0_9 l0_9.length c0_9] 32 (0, 0)) (by (with_reducible repeat (first | refine blk_drewN ?_ _ | refine blk_drew ?_ | refine blk_alloc ?_ _)); exact BK161.out) hb)
    have n1_ := Aside0.mk (below_step (by repeat (first | (with_reducible first | exact HB.out | apply below_alloc | apply pw_below_drewN | apply below_drew1 | refine below_set ?_ GE161.out) | exact HB.out)) hb)
    have n2_ := Aside0.mk (hbox)
    have n3_ := Aside0.mk ((by rw [hg]; exact (below_size (by repeat (first | (with_reducible first | exact HB.out | apply below_alloc | apply pw_below_drewN | apply below_drew1 | refine below_set ?_ GE161.out) | exact HB.out))) : w.heap.size ≤ gb168))
    have n4_ := Aside0.mk ((by rw [hg]; exact (below_size (by repeat (first | (with_reducible first | exact HB.out | apply below_alloc | apply pw_below_drewN | apply below_drew1 | refine below_set ?_ GE161.out) | exact HB.out))) : w.heap.size ≤ gb168))
    have n5_ := Aside0.mk ((by rw [hg]; exact Nat.ne_of_lt (blk_lt (g := gb161) (o := .cells #[.int .i64 a0_0, .int .i64 a0_1, .int .i64 a0_2, .int .i64 a0_3, .int .i64 a0_4, .slice A0_5 l0_5.length c0_5, .slice A0_6 l0_6.length c0_6, .slice A0_7 l0_7.length c0_7, .slice A0_8 l0_8.length c0_8, .slice A0_9 l0_9.length c0_9] 32 (0, 0)) (by (with_reducible repeat (first | refine blk_drewN ?_ _ | refine blk_drew ?_ | refine blk_alloc ?_ _)); exact BK161.out)) : gb161 ≠ gb168))
    have n6_ := Aside0.mk ((by rw [hg]; exact Nat.ne_of_gt (blk_lt (g := gb161) (o := .cells #[.int .i64 a0_0, .int .i64 a0_1, .int .i64 a0_2, .int .i64 a0_3, .int .i64 a0_4, .slice A0_5 l0_5.length c0_5, .slice A0_6 l0_6.length c0_6, .slice A0_7 l0_7.length c0_7, .slice A0_8 l0_8.length c0_8, .slice A0_9 l0_9.length c0_9] 32 (0, 0)) (by (with_reducible repeat (first | refine blk_drewN ?_ _ | refine blk_drew ?_ | refine blk_alloc ?_ _)); exact BK161.out)) : gb168 ≠ gb161))
    clear BK161
    clear HB
    have BK161 := n0_
    have HB := n1_
    have BK168 := n2_
    have GW168 := n3_
    have GE168 := n4_
    have NB161_168 := n5_
    have NB168_161 := n6_
    clear n0_ n1_ n2_ n3_ n4_ n5_ n6_
    clear hb hbox hg
    refine hK.out _ _ ⟨(blk_cell BK161.out 0).trans rfl, (blk_cell BK161.out 1).trans rfl, (blk_cell BK161.out 2).trans rfl, (blk_cell BK161.out 3).trans rfl, (blk_cell BK161.out 4).trans rfl, (blk_cell BK161.out 5).trans rfl, (blk_cell BK161.out 6).trans rfl, (blk_cell BK161.out 7).trans rfl, (blk_cell BK161.out 8).trans rfl, (blk_cell BK161.out 9).trans rfl⟩ (fun hHeld => ?_)
    clear hK K
    refine norm_ (a' := ?_) ?_ ?_
    rotate_left
    ·show Act.put _ (some 5) _ = _
     simp only [Act.put, List.setIfInBounds_toArray, List.set_cons_zero, List.set_cons_succ, i64_w, i32_w]
     rfl
    exact norm_ (by simp only [putAll, Act.put, List.setIfInBounds_toArray, List.set_cons_zero, List.set_cons_succ]) (hCont (gb168) _ ⟨hHeld, (by (with_reducible repeat (first | refine blk_drewN ?_ _ | refine blk_drew ?_ | refine blk_alloc ?_ _)); exact BK161.out), (by (with_reducible repeat (first | refine blk_drewN ?_ _ | refine blk_drew ?_ | refine blk_alloc ?_ _)); exact BK168.out), GW168.out, GE168.out, NB161_168.out, NB168_161.out, (by repeat (first | (with_reducible first | exact HB.out | apply below_alloc | apply pw_below_drewN | apply below_drew1 | refine below_set ?_ GE161.out | refine below_set ?_ GE168.out) | exact HB.out))⟩)
   ·skip
    refine box_step ?hg (N := 5) ?hd (cs := #[.int .i64 0, .int .u64 0, .int .u64 0, .int .i64 0]) (t := 38) ?hr ?_; (case hd => rfl); (case hg => rfl); (case hr => first | (go_simp; done) | (go_simp; rfl))
    intro gb168 hg w8 hbox hb
    have n0_ := Aside0.mk (blk_below (g := gb161) (o := .cells #[.int .i64 a0_0, .int .i64 a0_1, .int .i64 a0_2, .int .i64 a0_3, .int .i64 a0_4, .slice A0_5 l0_5.length c0_5, .slice A0_6 l0_6.length c0_6, .slice A0_7 l0_7.length c0_7, .slice A0_8 l0_8.length c0_8, .slice A0_9 l0_9.length c0_9] 32 (0, 0)) (by (with_reducible repeat (first | refine blk_drewN ?_ _ | refine blk_drew ?_ | refine blk_alloc ?_ _)); exact BK161.out) hb)
    have n1_ := Aside0.mk (below_step (by repeat (first | (with_reducible first | exact HB.out | apply below_alloc | apply pw_below_drewN | apply below_drew1 | refine below_set ?_ GE161.out) | exact HB.out)) hb)
    have n2_ := Aside0.mk (hbox)
    have n3_ := Aside0.mk ((by rw [hg]; exact (below_size (by repeat (first | (with_reducible first | exact HB.out | apply below_alloc | apply pw_below_drewN | apply below_drew1 | refine below_set ?_ GE161.out) | exact HB.out))) : w.heap.size ≤ gb168))
    have n4_ := Aside0.mk ((by rw [hg]; exact (below_size (by repeat (first | (with_reducible first | exact HB.out | apply below_alloc | apply pw_below_drewN | apply below_drew1 | refine below_set ?_ GE161.out) | exact HB.out))) : w.heap.size ≤ gb168))
    have n5_ := Aside0.mk ((by rw [hg]; exact Nat.ne_of_lt (blk_lt (g := gb161) (o := .cells #[.int .i64 a0_0, .int .i64 a0_1, .int .i64 a0_2, .int .i64 a0_3, .int .i64 a0_4, .slice A0_5 l0_5.length c0_5, .slice A0_6 l0_6.length c0_6, .slice A0_7 l0_7.length c0_7, .slice A0_8 l0_8.length c0_8, .slice A0_9 l0_9.length c0_9] 32 (0, 0)) (by (with_reducible repeat (first | refine blk_drewN ?_ _ | refine blk_drew ?_ | refine blk_alloc ?_ _)); exact BK161.out)) : gb161 ≠ gb168))
    have n6_ := Aside0.mk ((by rw [hg]; exact Nat.ne_of_gt (blk_lt (g := gb161) (o := .cells #[.int .i64 a0_0, .int .i64 a0_1, .int .i64 a0_2, .int .i64 a0_3, .int .i64 a0_4, .slice A0_5 l0_5.length c0_5, .slice A0_6 l0_6.length c0_6, .slice A0_7 l0_7.length c0_7, .slice A0_8 l0_8.length c0_8, .slice A0_9 l0_9.length c0_9] 32 (0, 0)) (by (with_reducible repeat (first | refine blk_drewN ?_ _ | refine blk_drew ?_ | refine blk_alloc ?_ _)); exact BK161.out)) : gb168 ≠ gb161))
    clear BK161
    clear HB
    have BK161 := n0_
    have HB := n1_
    have BK168 := n2_
    have GW168 := n3_
    have GE168 := n4_
    have NB161_168 := n5_
    have NB168_161 := n6_
    clear n0_ n1_ n2_ n3_ n4_ n5_ n6_
    clear hb hbox hg
    refine hK.out _ _ ⟨(blk_cell BK161.out 0).trans rfl, (blk_cell BK161.out 1).trans rfl, (blk_cell BK161.out 2).trans rfl, (blk_cell BK161.out 3).trans rfl, (blk_cell BK161.out 4).trans rfl, (blk_cell BK161.out 5).trans rfl, (blk_cell BK161.out 6).trans rfl, (blk_cell BK161.out 7).trans rfl, (blk_cell BK161.out 8).trans rfl, (blk_cell BK161.out 9).trans rfl⟩ (fun hHeld => ?_)
    clear hK K
    refine norm_ (a' := ?_) ?_ ?_
    rotate_left
    ·show Act.put _ (some 5) _ = _
     simp only [Act.put, List.setIfInBounds_toArray, List.set_cons_zero, List.set_cons_succ, i64_w, i32_w]
     rfl
    refine one_ (i := 4) (N := some 12) #[true, true, true, true, true, false, false, false, true, false, false] rfl rfl (one_of HT_.out (by kernel_rfl)) (by decide) (fun K hK => ?_)
    refine goes_ Try.func13 (by kernel_rfl) rfl #[.agg #[.int .i64 a0_0, .int .i64 a0_1, .int .i64 a0_2, .int .i64 a0_3, .int .i64 a0_4, .slice A0_5 l0_5.length c0_5, .slice A0_6 l0_6.length c0_6, .slice A0_7 l0_7.length c0_7, .slice A0_8 l0_8.length c0_8, .slice A0_9 l0_9.length c0_9], .int .i64 t162] (by rfl) rfl rfl (by (try simp only [List.map_toArray, List.map_cons, List.map_nil]); first | done | rfl | (simp only [List.length_drop, List.length_take]; rfl)) ?_
    with_reducible refine (corrieref07_Call.calls k a0_0 a0_1 a0_2 a0_3 a0_4 _ _ l0_5 _ _ l0_6 _ _ l0_7 _ _ l0_8 _ _ l0_9 t162 t163 t164 t165 t166 t167 _ ?side1 ?side2 ?side3 ?side4 ?side5 ?side6 ?side7 ?side8 ?side9 ?side10 A4.out).mono ?_
    (case side1 => repeat (first | exact (Kd.C_below HR0_5.out HB.out) | (with_reducible refine Kd.C_alloc ?_ _) | (with_reducible refine Kd.C_drewN ?_ _) | (with_reducible refine Kd.C_drew ?_)))
    (case side2 => exact HC0_5.out)
    (case side3 => repeat (first | exact (Kd.C_below HR0_6.out HB.out) | (with_reducible refine Kd.C_alloc ?_ _) | (with_reducible refine Kd.C_drewN ?_ _) | (with_reducible refine Kd.C_drew ?_)))
    (case side4 => exact HC0_6.out)
    (case side5 => repeat (first | exact (Kd.C_below HR0_7.out HB.out) | (with_reducible refine Kd.C_alloc ?_ _) | (with_reducible refine Kd.C_drewN ?_ _) | (with_reducible refine Kd.C_drew ?_)))
    (case side6 => exact HC0_7.out)
    (case side7 => repeat (first | exact (Kd.C_below HR0_8.out HB.out) | (with_reducible refine Kd.C_alloc ?_ _) | (with_reducible refine Kd.C_drewN ?_ _) | (with_reducible refine Kd.C_drew ?_)))
    (case side8 => exact HC0_8.out)
    (case side9 => repeat (first | exact (Kd.C_below HR0_9.out HB.out) | (with_reducible refine Kd.C_alloc ?_ _) | (with_reducible refine Kd.C_drewN ?_ _) | (with_reducible refine Kd.C_drew ?_)))
    (case side10 => exact HC0_9.out)
    rintro e w9 ⟨rfl, hb⟩
    refine ⟨_, rfl, ?_⟩
    have n0_ := Aside0.mk (blk_below (g := gb161) (o := .cells #[.int .i64 a0_0, .int .i64 a0_1, .int .i64 a0_2, .int .i64 a0_3, .int .i64 a0_4, .slice A0_5 l0_5.length c0_5, .slice A0_6 l0_6.length c0_6, .slice A0_7 l0_7.length c0_7, .slice A0_8 l0_8.length c0_8, .slice A0_9 l0_9.length c0_9] 32 (0, 0)) (by (with_reducible repeat (first | refine blk_drewN ?_ _ | refine blk_drew ?_ | refine blk_alloc ?_ _)); exact BK161.out) hb)
    have n1_ := Aside0.mk (blk_below (g := gb168) (o := .cells #[.int .i64 0, .int .u64 0, .int .u64 0, .int .i64 0] 38 (0, 0)) (by (with_reducible repeat (first | refine blk_drewN ?_ _ | refine blk_drew ?_ | refine blk_alloc ?_ _)); exact BK168.out) hb)
    have n2_ := Aside0.mk (below_step (by repeat (first | (with_reducible first | exact HB.out | apply below_alloc | apply pw_below_drewN | apply below_drew1 | refine below_set ?_ GE161.out | refine below_set ?_ GE168.out) | exact HB.out)) hb)
    clear BK161
    clear BK168
    clear HB
    have BK161 := n0_
    have BK168 := n1_
    have HB := n2_
    clear n0_ n1_ n2_
    (try clear hb)
    (try clear hb2)
    (try clear hk)
    (try clear hi)
    refine hK.out _ _ ⟨(blk_cell BK161.out 0).trans rfl, (blk_cell BK161.out 1).trans rfl, (blk_cell BK161.out 2).trans rfl, (blk_cell BK161.out 3).trans rfl, (blk_cell BK161.out 4).trans rfl, (blk_cell BK161.out 5).trans rfl, (blk_cell BK161.out 6).trans rfl, (blk_cell BK161.out 7).trans rfl, (blk_cell BK161.out 8).trans rfl, (blk_cell BK161.out 9).trans rfl⟩ (fun hHeld => ?_)
    clear hK K
    refine norm_ (a' := ?_) ?_ ?_
    rotate_left
    ·show Act.put _ (some 12) _ = _
     simp only [Act.put, List.setIfInBounds_toArray, List.set_cons_zero, List.set_cons_succ, i64_w, i32_w]
     rfl
    refine pure_ (i := 5) (N := some 7) (v := ?_) (a' := ?_) #[true, true, true, true, true, true, false, false, true, false, false] rfl rfl (any_of HT_.out (by kernel_rfl)) (fun _ _ _ h => h) (Or.inl ⟨by rfl, ?_⟩) ?_ ?_
    rotate_left
    ·intro w'
     go_simp
     with_reducible rfl
    rotate_left
    ·simp only [Act.put, List.setIfInBounds_toArray, List.set_cons_zero, List.set_cons_succ, i64_w, i32_w]
     rfl
    refine pure_ (i := 6) (N := some 13) (v := ?_) (a' := ?_) #[true, true, true, true, true, true, true, false, true, false, false] rfl rfl (any_of HT_.out (by kernel_rfl)) (fun _ _ _ h => h) (Or.inl ⟨by rfl, ?_⟩) ?_ ?_
    rotate_left
    ·intro w'
     go_simp
     with_reducible rfl
    rotate_left
    ·simp only [Act.put, List.setIfInBounds_toArray, List.set_cons_zero, List.set_cons_succ, i64_w, i32_w]
     rfl
    refine pure_ (i := 7) (N := some 14) (v := ?_) (a' := ?_) #[true, true, true, true, true, true, true, true, true, false, false] rfl rfl (any_of HT_.out (by kernel_rfl)) (fun _ _ _ h => h) (Or.inl ⟨by rfl, ?_⟩) ?_ ?_
    rotate_left
    ·intro w'
     go_simp
     with_reducible rfl
    rotate_left
    ·simp only [Act.put, List.setIfInBounds_toArray, List.set_cons_zero, List.set_cons_succ, i64_w, i32_w]
     rfl
    exact norm_ (by simp only [putAll, Act.put, List.setIfInBounds_toArray, List.set_cons_zero, List.set_cons_succ]) (hCont (gb168) _ ⟨hHeld, (by (with_reducible repeat (first | refine blk_drewN ?_ _ | refine blk_drew ?_ | refine blk_alloc ?_ _)); exact BK161.out), (by (with_reducible repeat (first | refine blk_drewN ?_ _ | refine blk_drew ?_ | refine blk_alloc ?_ _)); exact BK168.out), GW168.out, GE168.out, NB161_168.out, NB168_161.out, (by repeat (first | (with_reducible first | exact HB.out | apply below_alloc | apply pw_below_drewN | apply below_drew1 | refine below_set ?_ GE161.out | refine below_set ?_ GE168.out) | exact HB.out))⟩)
  ·skip
   refine box_step ?hg (N := 5) ?hd (cs := #[.int .i64 0, .int .u64 0, .int .u64 0, .int .i64 0]) (t := 38) ?hr ?_; (case hd => rfl); (case hg => rfl); (case hr => first | (go_simp; done) | (go_simp; rfl))
   intro gb168 hg w7 hbox hb
   have n0_ := Aside0.mk (blk_below (g := gb161) (o := .cells #[.int .i64 a0_0, .int .i64 a0_1, .int .i64 a0_2, .int .i64 a0_3, .int .i64 a0_4, .slice A0_5 l0_5.length c0_5, .slice A0_6 l0_6.length c0_6, .slice A0_7 l0_7.length c0_7, .slice A0_8 l0_8.length c0_8, .slice A0_9 l0_9.length c0_9] 32 (0, 0)) (by (with_reducible repeat (first | refine blk_drewN ?_ _ | refine blk_drew ?_ | refine blk_alloc ?_ _)); exact BK161.out) hb)
   have n1_ := Aside0.mk (below_step (by repeat (first | (with_reducible first | exact HB.out | apply below_alloc | apply pw_below_drewN | apply below_drew1 | refine below_set ?_ GE161.out) | exact HB.out)) hb)
   have n2_ := Aside0.mk (hbox)
   have n3_ := Aside0.mk ((by rw [hg]; exact (below_size (by repeat (first | (with_reducible first | exact HB.out | apply below_alloc | apply pw_below_drewN | apply below_drew1 | refine below_set ?_ GE161.out) | exact HB.out))) : w.heap.size ≤ gb168))
   have n4_ := Aside0.mk ((by rw [hg]; exact (below_size (by repeat (first | (with_reducible first | exact HB.out | apply below_alloc | apply pw_below_drewN | apply below_drew1 | refine below_set ?_ GE161.out) | exact HB.out))) : w.heap.size ≤ gb168))
   have n5_ := Aside0.mk ((by rw [hg]; exact Nat.ne_of_lt (blk_lt (g := gb161) (o := .cells #[.int .i64 a0_0, .int .i64 a0_1, .int .i64 a0_2, .int .i64 a0_3, .int .i64 a0_4, .slice A0_5 l0_5.length c0_5, .slice A0_6 l0_6.length c0_6, .slice A0_7 l0_7.length c0_7, .slice A0_8 l0_8.length c0_8, .slice A0_9 l0_9.length c0_9] 32 (0, 0)) (by (with_reducible repeat (first | refine blk_drewN ?_ _ | refine blk_drew ?_ | refine blk_alloc ?_ _)); exact BK161.out)) : gb161 ≠ gb168))
   have n6_ := Aside0.mk ((by rw [hg]; exact Nat.ne_of_gt (blk_lt (g := gb161) (o := .cells #[.int .i64 a0_0, .int .i64 a0_1, .int .i64 a0_2, .int .i64 a0_3, .int .i64 a0_4, .slice A0_5 l0_5.length c0_5, .slice A0_6 l0_6.length c0_6, .slice A0_7 l0_7.length c0_7, .slice A0_8 l0_8.length c0_8, .slice A0_9 l0_9.length c0_9] 32 (0, 0)) (by (with_reducible repeat (first | refine blk_drewN ?_ _ | refine blk_drew ?_ | refine blk_alloc ?_ _)); exact BK161.out)) : gb168 ≠ gb161))
   clear BK161
   clear HB
   have BK161 := n0_
   have HB := n1_
   have BK168 := n2_
   have GW168 := n3_
   have GE168 := n4_
   have NB161_168 := n5_
   have NB168_161 := n6_
   clear n0_ n1_ n2_ n3_ n4_ n5_ n6_
   clear hb hbox hg
   refine hK.out _ _ ⟨(blk_cell BK161.out 0).trans rfl, (blk_cell BK161.out 1).trans rfl, (blk_cell BK161.out 2).trans rfl, (blk_cell BK161.out 3).trans rfl, (blk_cell BK161.out 4).trans rfl, (blk_cell BK161.out 5).trans rfl, (blk_cell BK161.out 6).trans rfl, (blk_cell BK161.out 7).trans rfl, (blk_cell BK161.out 8).trans rfl, (blk_cell BK161.out 9).trans rfl⟩ (fun hHeld => ?_)
   clear hK K
   refine norm_ (a' := ?_) ?_ ?_
   rotate_left
   ·show Act.put _ (some 5) _ = _
    simp only [Act.put, List.setIfInBounds_toArray, List.set_cons_zero, List.set_cons_succ, i64_w, i32_w]
    rfl
   refine one_ (i := 3) (N := some 11) #[true, true, true, true, false, false, false, false, true, false, false] rfl rfl (one_of HT_.out (by kernel_rfl)) (by decide) (fun K hK => ?_)
   refine goes_ Try.func16 (by kernel_rfl) rfl #[.agg #[.int .i64 a0_0, .int .i64 a0_1, .int .i64 a0_2, .int .i64 a0_3, .int .i64 a0_4, .slice A0_5 l0_5.length c0_5, .slice A0_6 l0_6.length c0_6, .slice A0_7 l0_7.length c0_7, .slice A0_8 l0_8.length c0_8, .slice A0_9 l0_9.length c0_9], .int .i64 a1] (by rfl) rfl rfl (by (try simp only [List.map_toArray, List.map_cons, List.map_nil]); first | done | rfl | (simp only [List.length_drop, List.length_take]; rfl)) ?_
   with_reducible refine (corrieref07_Carried.calls k a0_0 a0_1 a0_2 a0_3 a0_4 _ _ l0_5 _ _ l0_6 _ _ l0_7 _ _ l0_8 _ _ l0_9 a1 t162 _ ?side1 ?side2 ?side3 ?side4 ?side5 ?side6 ?side7 ?side8 ?side9 ?side10 A3.out).mono ?_
   (case side1 => repeat (first | exact (Kd.C_below HR0_5.out HB.out) | (with_reducible refine Kd.C_alloc ?_ _) | (with_reducible refine Kd.C_drewN ?_ _) | (with_reducible refine Kd.C_drew ?_)))
   (case side2 => exact HC0_5.out)
   (case side3 => repeat (first | exact (Kd.C_below HR0_6.out HB.out) | (with_reducible refine Kd.C_alloc ?_ _) | (with_reducible refine Kd.C_drewN ?_ _) | (with_reducible refine Kd.C_drew ?_)))
   (case side4 => exact HC0_6.out)
   (case side5 => repeat (first | exact (Kd.C_below HR0_7.out HB.out) | (with_reducible refine Kd.C_alloc ?_ _) | (with_reducible refine Kd.C_drewN ?_ _) | (with_reducible refine Kd.C_drew ?_)))
   (case side6 => exact HC0_7.out)
   (case side7 => repeat (first | exact (Kd.C_below HR0_8.out HB.out) | (with_reducible refine Kd.C_alloc ?_ _) | (with_reducible refine Kd.C_drewN ?_ _) | (with_reducible refine Kd.C_drew ?_)))
   (case side8 => exact HC0_8.out)
   (case side9 => repeat (first | exact (Kd.C_below HR0_9.out HB.out) | (with_reducible refine Kd.C_alloc ?_ _) | (with_reducible refine Kd.C_drewN ?_ _) | (with_reducible refine Kd.C_drew ?_)))
   (case side10 => exact HC0_9.out)
   rintro e w8 ⟨rfl, hb⟩
   refine ⟨_, rfl, ?_⟩
   have n0_ := Aside0.mk (blk_below (g := gb161) (o := .cells #[.int .i64 a0_0, .int .i64 a0_1, .int .i64 a0_2, .int .i64 a0_3, .int .i64 a0_4, .slice A0_5 l0_5.length c0_5, .slice A0_6 l0_6.length c0_6, .slice A0_7 l0_7.length c0_7, .slice A0_8 l0_8.length c0_8, .slice A0_9 l0_9.length c0_9] 32 (0, 0)) (by (with_reducible repeat (first | refine blk_drewN ?_ _ | refine blk_drew ?_ | refine blk_alloc ?_ _)); exact BK161.out) hb)
   have n1_ := Aside0.mk (blk_below (g := gb168) (o := .cells #[.int .i64 0, .int .u64 0, .int .u64 0, .int .i64 0] 38 (0, 0)) (by (with_reducible repeat (first | refine blk_drewN ?_ _ | refine blk_drew ?_ | refine blk_alloc ?_ _)); exact BK168.out) hb)
   have n2_ := Aside0.mk (below_step (by repeat (first | (with_reducible first | exact HB.out | apply below_alloc | apply pw_below_drewN | apply below_drew1 | refine below_set ?_ GE161.out | refine below_set ?_ GE168.out) | exact HB.out)) hb)
   clear BK161
   clear BK168
   clear HB
   have BK161 := n0_
   have BK168 := n1_
   have HB := n2_
   clear n0_ n1_ n2_
   (try clear hb)
   (try clear hb2)
   (try clear hk)
   (try clear hi)
   refine hK.out _ _ ⟨(blk_cell BK161.out 0).trans rfl, (blk_cell BK161.out 1).trans rfl, (blk_cell BK161.out 2).trans rfl, (blk_cell BK161.out 3).trans rfl, (blk_cell BK161.out 4).trans rfl, (blk_cell BK161.out 5).trans rfl, (blk_cell BK161.out 6).trans rfl, (blk_cell BK161.out 7).trans rfl, (blk_cell BK161.out 8).trans rfl, (blk_cell BK161.out 9).trans rfl⟩ (fun hHeld => ?_)
   clear hK K
   refine norm_ (a' := ?_) ?_ ?_
   rotate_left
   ·show Act.put _ (some 11) _ = _
    simp only [Act.put, List.setIfInBounds_toArray, List.set_cons_zero, List.set_cons_succ, i64_w, i32_w]
    rfl
   refine one_ (i := 4) (N := some 12) #[true, true, true, true, true, false, false, false, true, false, false] rfl rfl (one_of HT_.out (by kernel_rfl)) (by decide) (fun K hK => ?_)
   refine goes_ Try.func13 (by kernel_rfl) rfl #[.agg #[.int .i64 a0_0, .int .i64 a0_1, .int .i64 a0_2, .int .i64 a0_3, .int .i64 a0_4, .slice A0_5 l0_5.length c0_5, .slice A0_6 l0_6.length c0_6, .slice A0_7 l0_7.length c0_7, .slice A0_8 l0_8.length c0_8, .slice A0_9 l0_9.length c0_9], .int .i64 t162] (by rfl) rfl rfl (by (try simp only [List.map_toArray, List.map_cons, List.map_nil]); first | done | rfl | (simp only [List.length_drop, List.length_take]; rfl)) ?_
   with_reducible refine (corrieref07_Call.calls k a0_0 a0_1 a0_2 a0_3 a0_4 _ _ l0_5 _ _ l0_6 _ _ l0_7 _ _ l0_8 _ _ l0_9 t162 t163 t164 t165 t166 t167 _ ?side1 ?side2 ?side3 ?side4 ?side5 ?side6 ?side7 ?side8 ?side9 ?side10 A4.out).mono ?_
   (case side1 => repeat (first | exact (Kd.C_below HR0_5.out HB.out) | (with_reducible refine Kd.C_alloc ?_ _) | (with_reducible refine Kd.C_drewN ?_ _) | (with_reducible refine Kd.C_drew ?_)))
   (case side2 => exact HC0_5.out)
   (case side3 => repeat (first | exact (Kd.C_below HR0_6.out HB.out) | (with_reducible refine Kd.C_alloc ?_ _) | (with_reducible refine Kd.C_drewN ?_ _) | (with_reducible refine Kd.C_drew ?_)))
   (case side4 => exact HC0_6.out)
   (case side5 => repeat (first | exact (Kd.C_below HR0_7.out HB.out) | (with_reducible refine Kd.C_alloc ?_ _) | (with_reducible refine Kd.C_drewN ?_ _) | (with_reducible refine Kd.C_drew ?_)))
   (case side6 => exact HC0_7.out)
   (case side7 => repeat (first | exact (Kd.C_below HR0_8.out HB.out) | (with_reducible refine Kd.C_alloc ?_ _) | (with_reducible refine Kd.C_drewN ?_ _) | (with_reducible refine Kd.C_drew ?_)))
   (case side8 => exact HC0_8.out)
   (case side9 => repeat (first | exact (Kd.C_below HR0_9.out HB.out) | (with_reducible refine Kd.C_alloc ?_ _) | (with_reducible refine Kd.C_drewN ?_ _) | (with_reducible refine Kd.C_drew ?_)))
   (case side10 => exact HC0_9.out)
   rintro e w9 ⟨rfl, hb⟩
   refine ⟨_, rfl, ?_⟩
   have n0_ := Aside0.mk (blk_below (g := gb161) (o := .cells #[.int .i64 a0_0, .int .i64 a0_1, .int .i64 a0_2, .int .i64 a0_3, .int .i64 a0_4, .slice A0_5 l0_5.length c0_5, .slice A0_6 l0_6.length c0_6, .slice A0_7 l0_7.length c0_7, .slice A0_8 l0_8.length c0_8, .slice A0_9 l0_9.length c0_9] 32 (0, 0)) (by (with_reducible repeat (first | refine blk_drewN ?_ _ | refine blk_drew ?_ | refine blk_alloc ?_ _)); exact BK161.out) hb)
   have n1_ := Aside0.mk (blk_below (g := gb168) (o := .cells #[.int .i64 0, .int .u64 0, .int .u64 0, .int .i64 0] 38 (0, 0)) (by (with_reducible repeat (first | refine blk_drewN ?_ _ | refine blk_drew ?_ | refine blk_alloc ?_ _)); exact BK168.out) hb)
   have n2_ := Aside0.mk (below_step (by repeat (first | (with_reducible first | exact HB.out | apply below_alloc | apply pw_below_drewN | apply below_drew1 | refine below_set ?_ GE161.out | refine below_set ?_ GE168.out) | exact HB.out)) hb)
   clear BK161
   clear BK168
   clear HB
   have BK161 := n0_
   have BK168 := n1_
   have HB := n2_
   clear n0_ n1_ n2_
   (try clear hb)
   (try clear hb2)
   (try clear hk)
   (try clear hi)
   refine hK.out _ _ ⟨(blk_cell BK161.out 0).trans rfl, (blk_cell BK161.out 1).trans rfl, (blk_cell BK161.out 2).trans rfl, (blk_cell BK161.out 3).trans rfl, (blk_cell BK161.out 4).trans rfl, (blk_cell BK161.out 5).trans rfl, (blk_cell BK161.out 6).trans rfl, (blk_cell BK161.out 7).trans rfl, (blk_cell BK161.out 8).trans rfl, (blk_cell BK161.out 9).trans rfl⟩ (fun hHeld => ?_)
   clear hK K
   refine norm_ (a' := ?_) ?_ ?_
   rotate_left
   ·show Act.put _ (some 12) _ = _
    simp only [Act.put, List.setIfInBounds_toArray, List.set_cons_zero, List.set_cons_succ, i64_w, i32_w]
    rfl
   refine pure_ (i := 5) (N := some 7) (v := ?_) (a' := ?_) #[true, true, true, true, true, true, false, false, true, false, false] rfl rfl (any_of HT_.out (by kernel_rfl)) (fun _ _ _ h => h) (Or.inl ⟨by rfl, ?_⟩) ?_ ?_
   rotate_left
   ·intro w'
    go_simp
    with_reducible rfl
   rotate_left
   ·simp only [Act.put, List.setIfInBounds_toArray, List.set_cons_zero, List.set_cons_succ, i64_w, i32_w]
    rfl
   refine pure_ (i := 6) (N := some 13) (v := ?_) (a' := ?_) #[true, true, true, true, true, true, true, false, true, false, false] rfl rfl (any_of HT_.out (by kernel_rfl)) (fun _ _ _ h => h) (Or.inl ⟨by rfl, ?_⟩) ?_ ?_
   rotate_left
   ·intro w'
    go_simp
    with_reducible rfl
   rotate_left
   ·simp only [Act.put, List.setIfInBounds_toArray, List.set_cons_zero, List.set_cons_succ, i64_w, i32_w]
    rfl
   refine pure_ (i := 7) (N := some 14) (v := ?_) (a' := ?_) #[true, true, true, true, true, true, true, true, true, false, false] rfl rfl (any_of HT_.out (by kernel_rfl)) (fun _ _ _ h => h) (Or.inl ⟨by rfl, ?_⟩) ?_ ?_
   rotate_left
   ·intro w'
    go_simp
    with_reducible rfl
   rotate_left
   ·simp only [Act.put, List.setIfInBounds_toArray, List.set_cons_zero, List.set_cons_succ, i64_w, i32_w]
    rfl
   exact norm_ (by simp only [putAll, Act.put, List.setIfInBounds_toArray, List.set_cons_zero, List.set_cons_succ]) (hCont (gb168) _ ⟨hHeld, (by (with_reducible repeat (first | refine blk_drewN ?_ _ | refine blk_drew ?_ | refine blk_alloc ?_ _)); exact BK161.out), (by (with_reducible repeat (first | refine blk_drewN ?_ _ | refine blk_drew ?_ | refine blk_alloc ?_ _)); exact BK168.out), GW168.out, GE168.out, NB161_168.out, NB168_161.out, (by repeat (first | (with_reducible first | exact HB.out | apply below_alloc | apply pw_below_drewN | apply below_drew1 | refine below_set ?_ GE161.out | refine below_set ?_ GE168.out) | exact HB.out))⟩)
 rintro gb168 w10 ⟨hS_, h0_, h1_, h2_, h3_, h4_, h5_, h6_⟩
 have n0_ : Aside0 (w10.heap[gb161]? = some (.cells #[.int .i64 a0_0, .int .i64 a0_1, .int .i64 a0_2, .int .i64 a0_3, .int .i64 a0_4, .slice A0_5 l0_5.length c0_5, .slice A0_6 l0_6.length c0_6, .slice A0_7 l0_7.length c0_7, .slice A0_8 l0_8.length c0_8, .slice A0_9 l0_9.length c0_9] 32 (0, 0))) := ⟨h0_⟩
 have n1_ : Aside0 (w10.heap[gb168]? = some (.cells #[.int .i64 0, .int .u64 0, .int .u64 0, .int .i64 0] 38 (0, 0))) := ⟨h1_⟩
 have n2_ : Aside0 (w.heap.size ≤ gb168) := ⟨h2_⟩
 have n3_ : Aside0 (w.heap.size ≤ gb168) := ⟨h3_⟩
 have n4_ : Aside0 (gb161 ≠ gb168) := ⟨h4_⟩
 have n5_ : Aside0 (gb168 ≠ gb161) := ⟨h5_⟩
 have n6_ : Aside0 (Below w.heap.size w w10) := ⟨h6_⟩
 clear BK161
 clear HB
 clear h0_ h1_ h2_ h3_ h4_ h5_ h6_
 have BK161 := n0_
 have BK168 := n1_
 have GW168 := n2_
 have GE168 := n3_
 have NB161_168 := n4_
 have NB168_161 := n5_
 have HB := n6_
 clear n0_ n1_ n2_ n3_ n4_ n5_ n6_
 have hHeld : w10.cell? ⟨gb161, 0, none⟩ = some (.int .i64 a0_0) ∧ w10.cell? ⟨gb161, 1, none⟩ = some (.int .i64 a0_1) ∧ w10.cell? ⟨gb161, 2, none⟩ = some (.int .i64 a0_2) ∧ w10.cell? ⟨gb161, 3, none⟩ = some (.int .i64 a0_3) ∧ w10.cell? ⟨gb161, 4, none⟩ = some (.int .i64 a0_4) ∧ w10.cell? ⟨gb161, 5, none⟩ = some (.slice A0_5 l0_5.length c0_5) ∧ w10.cell? ⟨gb161, 6, none⟩ = some (.slice A0_6 l0_6.length c0_6) ∧ w10.cell? ⟨gb161, 7, none⟩ = some (.slice A0_7 l0_7.length c0_7) ∧ w10.cell? ⟨gb161, 8, none⟩ = some (.slice A0_8 l0_8.length c0_8) ∧ w10.cell? ⟨gb161, 9, none⟩ = some (.slice A0_9 l0_9.length c0_9) := hS_
 refine norm_ (a' := ?_) ?_ ?_
 rotate_left
 ·simp only [putAll, Act.put, List.setIfInBounds_toArray, List.set_cons_zero, List.set_cons_succ]
  rfl
 refine one_ (i := 9) (N := none) #[true, true, true, true, true, true, true, true, true, true, false] rfl rfl (one_of HT_.out (by kernel_rfl)) (by decide) (fun K hK => ?_)
 have hs11 : w10.cell? ⟨gb168, 0, none⟩ = some (.int .i64 0) := (blk_cell BK168.out 0).trans rfl
 have hfs11 := blk_frozen BK168.out 0
 have hns11_0 := NB161_168.out
 have hms11_0 := NB168_161.out
 have hs12 : w10.cell? ⟨gb168, 1, none⟩ = some (.int .u64 0) := (blk_cell BK168.out 1).trans rfl
 have hfs12 := blk_frozen BK168.out 1
 have hns12_0 := NB161_168.out
 have hms12_0 := NB168_161.out
 have hs13 : w10.cell? ⟨gb168, 2, none⟩ = some (.int .u64 0) := (blk_cell BK168.out 2).trans rfl
 have hfs13 := blk_frozen BK168.out 2
 have hns13_0 := NB161_168.out
 have hms13_0 := NB168_161.out
 have hs14 : w10.cell? ⟨gb168, 3, none⟩ = some (.int .i64 0) := (blk_cell BK168.out 3).trans rfl
 have hfs14 := blk_frozen BK168.out 3
 have hns14_0 := NB161_168.out
 have hms14_0 := NB168_161.out
 refine skip_ (w1 := ?_) (by rfl) rfl ?_ ?_
 rotate_left
 ·go_simp
  rfl
 refine hK.out _ _ ⟨((cell_far (p := ⟨gb168, _, none⟩) NB161_168.out _).trans (((cell_far (p := ⟨gb168, _, none⟩) NB161_168.out _).trans (((cell_far (p := ⟨gb168, _, none⟩) NB161_168.out _).trans (((cell_far (p := ⟨gb168, _, none⟩) NB161_168.out _).trans (hHeld.1)))))))), ((cell_far (p := ⟨gb168, _, none⟩) NB161_168.out _).trans (((cell_far (p := ⟨gb168, _, none⟩) NB161_168.out _).trans (((cell_far (p := ⟨gb168, _, none⟩) NB161_168.out _).trans (((cell_far (p := ⟨gb168, _, none⟩) NB161_168.out _).trans (hHeld.2.1)))))))), ((cell_far (p := ⟨gb168, _, none⟩) NB161_168.out _).trans (((cell_far (p := ⟨gb168, _, none⟩) NB161_168.out _).trans (((cell_far (p := ⟨gb168, _, none⟩) NB161_168.out _).trans (((cell_far (p := ⟨gb168, _, none⟩) NB161_168.out _).trans (hHeld.2.2.1)))))))), ((cell_far (p := ⟨gb168, _, none⟩) NB161_168.out _).trans (((cell_far (p := ⟨gb168, _, none⟩) NB161_168.out _).trans (((cell_far (p := ⟨gb168, _, none⟩) NB161_168.out _).trans (((cell_far (p := ⟨gb168, _, none⟩) NB161_168.out _).trans (hHeld.2.2.2.1)))))))), ((cell_far (p := ⟨gb168, _, none⟩) NB161_168.out _).trans (((cell_far (p := ⟨gb168, _, none⟩) NB161_168.out _).trans (((cell_far (p := ⟨gb168, _, none⟩) NB161_168.out _).trans (((cell_far (p := ⟨gb168, _, none⟩) NB161_168.out _).trans (hHeld.2.2.2.2.1)))))))), ((cell_far (p := ⟨gb168, _, none⟩) NB161_168.out _).trans (((cell_far (p := ⟨gb168, _, none⟩) NB161_168.out _).trans (((cell_far (p := ⟨gb168, _, none⟩) NB161_168.out _).trans (((cell_far (p := ⟨gb168, _, none⟩) NB161_168.out _).trans (hHeld.2.2.2.2.2.1)))))))), ((cell_far (p := ⟨gb168, _, none⟩) NB161_168.out _).trans (((cell_far (p := ⟨gb168, _, none⟩) NB161_168.out _).trans (((cell_far (p := ⟨gb168, _, none⟩) NB161_168.out _).trans (((cell_far (p := ⟨gb168, _, none⟩) NB161_168.out _).trans (hHeld.2.2.2.2.2.2.1)))))))), ((cell_far (p := ⟨gb168, _, none⟩) NB161_168.out _).trans (((cell_far (p := ⟨gb168, _, none⟩) NB161_168.out _).trans (((cell_far (p := ⟨gb168, _, none⟩) NB161_168.out _).trans (((cell_far (p := ⟨gb168, _, none⟩) NB161_168.out _).trans (hHeld.2.2.2.2.2.2.2.1)))))))), ((cell_far (p := ⟨gb168, _, none⟩) NB161_168.out _).trans (((cell_far (p := ⟨gb168, _, none⟩) NB161_168.out _).trans (((cell_far (p := ⟨gb168, _, none⟩) NB161_168.out _).trans (((cell_far (p := ⟨gb168, _, none⟩) NB161_168.out _).trans (hHeld.2.2.2.2.2.2.2.2.1)))))))), ((cell_far (p := ⟨gb168, _, none⟩) NB161_168.out _).trans (((cell_far (p := ⟨gb168, _, none⟩) NB161_168.out _).trans (((cell_far (p := ⟨gb168, _, none⟩) NB161_168.out _).trans (((cell_far (p := ⟨gb168, _, none⟩) NB161_168.out _).trans (hHeld.2.2.2.2.2.2.2.2.2))))))))⟩ (fun hHeld => ?_)
 clear hK K
 refine pure_ (i := 10) (N := some 6) (v := ?_) (a' := ?_) #[true, true, true, true, true, true, true, true, true, true, true] rfl rfl (any_of HT_.out (by kernel_rfl)) (fun _ _ _ h => h) (Or.inl ⟨by rfl, ?_⟩) ?_ ?_
 rotate_left
 ·intro w'
  go_simp
  with_reducible rfl
 rotate_left
 ·simp only [Act.put, List.setIfInBounds_toArray, List.set_cons_zero, List.set_cons_succ, i64_w, i32_w]
  rfl
 refine done_ (done_of HT_.out (by kernel_rfl)) ?_
 have hnb15 := NB168_161.out
 have hnc15 := NB161_168.out
 have hcz16_0 : w10.cell? ⟨gb168, 0, none⟩ = some (.int .i64 0) := (blk_cell BK168.out 0).trans rfl
 have hcz16_1 : w10.cell? ⟨gb168, 1, none⟩ = some (.int .u64 0) := (blk_cell BK168.out 1).trans rfl
 have hcz16_2 : w10.cell? ⟨gb168, 2, none⟩ = some (.int .u64 0) := (blk_cell BK168.out 2).trans rfl
 have hcz16_3 : w10.cell? ⟨gb168, 3, none⟩ = some (.int .i64 0) := (blk_cell BK168.out 3).trans rfl
 have hfz16_0 := blk_frozen BK168.out 0
 have hfz16_1 := blk_frozen BK168.out 1
 have hfz16_2 := blk_frozen BK168.out 2
 have hfz16_3 := blk_frozen BK168.out 3
 try go_wp2
 go_ret
 exact ⟨by first | rfl | (simp [errW_none, errW_some] <;> rfl) | (simp [*, errW_none, errW_some] <;> rfl), by repeat (first | (with_reducible first | exact HB.out | apply below_alloc | apply pw_below_drewN | apply below_drew1 | refine below_set ?_ GE161.out | refine below_set ?_ GE168.out) | exact HB.out)⟩

end Go.Proofs.Ytpcmoclohepdiaf.PBookActs
