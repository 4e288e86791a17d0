-- Written by a program of this session: a variant of the print that takes proofs by hand (wip/tools/mkprint.py)
import Derived.Test.YtpcmoclohepdiabPBoundStepsx0
import Derived.Test.YtpcmoclohepdiabPBoundStepsx1
namespace Go.Proofs.Ytpcmoclohepdiab.PBoundSteps
open Go.RowKit Go.Proofs.YtpcmoclohepdiabW.PrintWords Go.Proofs.YtpcmoclohepdiabW.PrintLast Go.Proofs.YtpcmoclohepdiabW.PrintMore
attribute [local go_sem] max2_int min2_int max_two min_two max_three min_three max_four min_four   -- for this text's walks alone
set_option linter.unusedVariables false
set_option linter.unusedSimpArgs false

/-! ### bound_Of: function 15 (by hand) -/
theorem bof_heap : Kd.Heap k38 := by
  unfold k38
  refine Kd.heap_iso _ (Kd.heap_pair (Kd.heap_int _) (Kd.heap_pair (Kd.heap_int _) (Kd.heap_pair (Kd.heap_int _) (Kd.heap_pair (Kd.heap_int _) (Kd.heap_pair (Kd.heap_int _) (Kd.heap_pair ?_ ?_))))))
  · exact Kd.heap_iso _ (Kd.heap_pair (Kd.heap_int _) (Kd.heap_pair (Kd.heap_int _) (Kd.heap_pair (Kd.heap_int _) (Kd.heap_int _))))
  · exact Kd.heap_iso _ (Kd.heap_pair (Kd.heap_int _) (Kd.heap_pair Kd.heap_bool (Kd.heap_pair (Kd.heap_int _) (Kd.heap_slice _ (Kd.heap_iso _ (Kd.heap_pair (Kd.heap_int _) (Kd.heap_int _)))))))
theorem bof_up {w w1 : World} {A : Option Addr} {n : Nat} {xs : List S38} (h : Kd.C k38 w A n xs) (hb : Below w.heap.size w w1) : Kd.C k38 w1 A n xs := bof_heap.C (fun k hk => hb.block k hk) h
def bound_Of.T1 : Bool × List (List Nat × List Nat) := (true, [([], []), ([], []), ([1], [1]), ([0, 2], [0, 2]), ([3], [3]), ([], []), ([], []), ([5, 6, 3], [5, 6]), ([4, 7, 0, 1, 2, 3, 4], [4]), ([7, 8, 0, 1, 2, 3, 4, 5, 6, 7, 8], [7])])
def bound_Of.B1 : List Nat := [0, 0, 2, 7, 15, 0, 0, 111, 255, 511]
theorem bound_Of.tab1 : rtab .any (opsOf Try.f15 1) = bound_Of.T1 := by kernel_rfl
theorem bound_Of.bits1 : waitsOk bound_Of.T1.2 bound_Of.B1 = true := by kernel_rfl
def bound_Of.g (k : Nat) (t b i f c : Int) (l1 : List S38) (e : S38) : Option Int := (history_Size.f k l1 e.f2).bind fun s => (hin_c.l0 e k l1 0 0).bind fun n => if e.f5.f0 = 4 then bound_Scan.f k t b i f c (if s < 0 then 0 else s) n else bound_Point.f k t b i f c (if s < 0 then 0 else s) n
theorem bound_Of.gmono : ∀ t b i f c l1 e k, LeO (bound_Of.g k t b i f c l1 e) (bound_Of.g (k + 1) t b i f c l1 e) := by
  intros
  exact LeO.bind (history_Size.mono _ _ _) (fun _ => LeO.bind (hin_c.mono_l _ _ _ _ _) (fun _ => LeO.ite (bound_Scan.mono _ _ _ _ _ _ _ _) (bound_Point.mono _ _ _ _ _ _ _ _)))
set_option maxHeartbeats 8000000 in
set_option maxRecDepth 100000 in
theorem bound_Of.law (k : Nat) (t b i f c : Int) (A1 : Option Addr) (c1 : Nat) (l1 : List S38) (e : S38) (Ae : Option Addr) (ce : Nat) (r : Int) (w : World) (hr1 : Kd.C k38 w A1 l1.length l1) (hc1 : l1.length ≤ c1) (h : bound_Of.g k t b i f c l1 e = some r) :
    Calls Try.prog 15 #[.agg #[.int .i64 t, .int .i64 b, .int .i64 i, .int .i64 f, .int .i64 c], .slice A1 l1.length c1, .agg #[.int .i64 e.f0, .int .i64 e.f1, .int .i64 e.f2, .int .i64 e.f3, .int .i64 e.f4, .int .i64 e.f5.f0, .int .u64 e.f5.f1, .int .u64 e.f5.f2, .int .i64 e.f5.f3, .int .i64 e.f6.f0, .bool e.f6.f1, .int .u64 e.f6.f2, .slice Ae e.f6.f3.length ce]] w fun e_ w' => e_ = .returned (.int .i64 r) ∧ Below w.heap.size w w' := by
  have HR1 := Aside0.mk hr1
  have HC1 := Aside0.mk hc1
  obtain ⟨s, hs, h⟩ := Option.bind_eq_some_iff.mp h
  obtain ⟨n, hn, h⟩ := Option.bind_eq_some_iff.mp h
  have Hs := Aside0.mk hs
  have Hn := Aside0.mk hn
  have HB := Aside0.mk (Below.refl w.heap.size w)
  clear hr1 hc1 hs hn
  by_cases q1 : e.f5.f0 = 4
  · rw [if_pos q1] at h
    have q1b : (e.f5.f0 == 4) = true := beq_iff_eq.mpr q1
    clear q1
    go_enter Try.func15, Try.ntmps15
    go_wp2_with (first | ((with_reducible refine gate_dst (N := 3) rfl ?_); refine box_event ?hg (N := 3) ?hd (cs := #[.int .i64 t, .int .i64 b, .int .i64 i, .int .i64 f, .int .i64 c]) (t := 23) ?hr ?_; (case hd => rfl); (case hg => rfl); (case hr => first | (go_simp; done) | (go_simp; rfl)); intro gc hg wb_gc hbox hb; have BKgc := Aside0.mk hbox; have n0_ := Aside0.mk (below_step HB.out hb); clear HB; have HB := n0_; clear n0_; clear hb hbox hg) | ((with_reducible refine gate_dst (N := 5) rfl ?_); refine box_event ?hg (N := 5) ?hd (cs := #[.int .i64 e.f0, .int .i64 e.f1, .int .i64 e.f2, .int .i64 e.f3, .int .i64 e.f4, .int .i64 e.f5.f0, .int .u64 e.f5.f1, .int .u64 e.f5.f2, .int .i64 e.f5.f3, .int .i64 e.f6.f0, .bool e.f6.f1, .int .u64 e.f6.f2, .slice Ae e.f6.f3.length ce]) (t := 38) ?hr ?_; (case hd => rfl); (case hg => rfl); (case hr => first | (go_simp; done) | (go_simp; rfl)); intro ge hg wb_ge hbox hb; have BKge := Aside0.mk hbox; have n_BKgc := Aside0.mk (blk_below (g := gc) (o := .cells #[.int .i64 t, .int .i64 b, .int .i64 i, .int .i64 f, .int .i64 c] 23 (0, 0)) BKgc.out hb); clear BKgc; have BKgc := n_BKgc; clear n_BKgc; have n0_ := Aside0.mk (below_step HB.out hb); clear HB; have HB := n0_; clear n0_; clear hb hbox hg))
    have n_BKge := Aside0.mk (blk_drew (g := ge) (o := .cells #[.int .i64 e.f0, .int .i64 e.f1, .int .i64 e.f2, .int .i64 e.f3, .int .i64 e.f4, .int .i64 e.f5.f0, .int .u64 e.f5.f1, .int .u64 e.f5.f2, .int .i64 e.f5.f3, .int .i64 e.f6.f0, .bool e.f6.f1, .int .u64 e.f6.f2, .slice Ae e.f6.f3.length ce] 38 (0, 0)) BKge.out)
    clear BKge
    have BKge := n_BKge
    clear n_BKge
    have n_BKgc := Aside0.mk (blk_drew (g := gc) (o := .cells #[.int .i64 t, .int .i64 b, .int .i64 i, .int .i64 f, .int .i64 c] 23 (0, 0)) BKgc.out)
    clear BKgc
    have BKgc := n_BKgc
    clear n_BKgc
    have n1_ := Aside0.mk (below_drew1 HB.out)
    clear HB
    have HB := n1_
    clear n1_
    refine start_ (n := 10) (S := fun w' => w'.cell? ⟨ge, 0, none⟩ = some (.int .i64 e.f0) ∧ w'.cell? ⟨ge, 1, none⟩ = some (.int .i64 e.f1) ∧ w'.cell? ⟨ge, 2, none⟩ = some (.int .i64 e.f2) ∧ w'.cell? ⟨ge, 3, none⟩ = some (.int .i64 e.f3) ∧ w'.cell? ⟨ge, 4, none⟩ = some (.int .i64 e.f4) ∧ w'.cell? ⟨ge, 5, none⟩ = some (.int .i64 e.f5.f0) ∧ w'.cell? ⟨ge, 6, none⟩ = some (.int .u64 e.f5.f1) ∧ w'.cell? ⟨ge, 7, none⟩ = some (.int .u64 e.f5.f2) ∧ w'.cell? ⟨ge, 8, none⟩ = some (.int .i64 e.f5.f3) ∧ w'.cell? ⟨ge, 9, none⟩ = some (.int .i64 e.f6.f0) ∧ w'.cell? ⟨ge, 10, none⟩ = some (.bool e.f6.f1) ∧ w'.cell? ⟨ge, 11, none⟩ = some (.int .u64 e.f6.f2) ∧ w'.cell? ⟨ge, 12, none⟩ = some (.slice Ae e.f6.f3.length ce) ∧ w'.cell? ⟨gc, 0, none⟩ = some (.int .i64 t) ∧ w'.cell? ⟨gc, 1, none⟩ = some (.int .i64 b) ∧ w'.cell? ⟨gc, 2, none⟩ = some (.int .i64 i) ∧ w'.cell? ⟨gc, 3, none⟩ = some (.int .i64 f) ∧ w'.cell? ⟨gc, 4, none⟩ = some (.int .i64 c)) (ds := []) #[false, false, false, false, false, false, false, false, false, false] (by kernel_rfl) rfl rfl ⟨(blk_cell BKge.out 0).trans rfl, (blk_cell BKge.out 1).trans rfl, (blk_cell BKge.out 2).trans rfl, (blk_cell BKge.out 3).trans rfl, (blk_cell BKge.out 4).trans rfl, (blk_cell BKge.out 5).trans rfl, (blk_cell BKge.out 6).trans rfl, (blk_cell BKge.out 7).trans rfl, (blk_cell BKge.out 8).trans rfl, (blk_cell BKge.out 9).trans rfl, (blk_cell BKge.out 10).trans rfl, (blk_cell BKge.out 11).trans rfl, (blk_cell BKge.out 12).trans rfl, (blk_cell BKgc.out 0).trans rfl, (blk_cell BKgc.out 1).trans rfl, (blk_cell BKgc.out 2).trans rfl, (blk_cell BKgc.out 3).trans rfl, (blk_cell BKgc.out 4).trans rfl⟩ (fun hHeld => ?_); refine with_tabW bound_Of.tab1 bound_Of.bits1 (fun HT_ HW_ => ?_)
    generalize wb_ge.drew = W1 at BKge BKgc HB hHeld ⊢
    refine pure_ (i := 0) (N := some 9) (v := ?_) (a' := ?_) #[true, false, false, false, false, false, false, false, false, false] rfl rfl (any_of HT_.out (by kernel_rfl)) (fun _ _ _ h => h) (Or.inl ⟨by rfl, ?_⟩) ?_ ?_
    rotate_left
    · intro w'
      go_simp
      with_reducible rfl
    rotate_left
    · simp only [Act.put, List.setIfInBounds_toArray, List.set_cons_zero, List.set_cons_succ, i64_w, i32_w]
      rfl
    refine pure_ (i := 1) (N := some 10) (v := ?_) (a' := ?_) #[true, true, false, false, false, false, false, false, false, false] rfl rfl (any_of HT_.out (by kernel_rfl)) (fun _ _ _ h => h) (Or.inl ⟨by rfl, ?_⟩) ?_ ?_
    rotate_left
    · intro w'
      go_simp
      with_reducible rfl
    rotate_left
    · simp only [Act.put, List.setIfInBounds_toArray, List.set_cons_zero, List.set_cons_succ, i64_w, i32_w]
      rfl
    refine take_ (i := 2) (N := some 11) (v := ?_) (a' := ?_) #[true, true, true, false, false, false, false, false, false, false] rfl rfl (take_ofW HT_.out HW_.out (by kernel_rfl)) (fun _ _ _ h => h) (Or.inl ⟨by rfl, ?_⟩) hHeld ?_ ?_
    rotate_left
    · rintro w' ⟨s0, s1, s2, s3, s4, s5, s6, s7, s8, s9, s10, s11, s12, s13, s14, s15, s16, s17⟩
      go_simp
      with_reducible rfl
    rotate_left
    · simp only [Act.put, List.setIfInBounds_toArray, List.set_cons_zero, List.set_cons_succ, i64_w, i32_w]
      rfl
    refine pure_ (i := 5) (N := some 14) (v := ?_) (a' := ?_) #[true, true, true, false, false, true, false, false, false, false] rfl rfl (any_of HT_.out (by kernel_rfl)) (fun _ _ _ h => h) (Or.inl ⟨by rfl, ?_⟩) ?_ ?_
    rotate_left
    · intro w'
      go_simp
      with_reducible rfl
    rotate_left
    · simp only [Act.put, List.setIfInBounds_toArray, List.set_cons_zero, List.set_cons_succ, i64_w, i32_w]
      rfl
    refine take_ (i := 6) (N := some 15) (v := ?_) (a' := ?_) #[true, true, true, false, false, true, true, false, false, false] rfl rfl (take_ofW HT_.out HW_.out (by kernel_rfl)) (fun _ _ _ h => h) (Or.inl ⟨by rfl, ?_⟩) hHeld ?_ ?_
    rotate_left
    · rintro w' ⟨s0, s1, s2, s3, s4, s5, s6, s7, s8, s9, s10, s11, s12, s13, s14, s15, s16, s17⟩
      go_simp
      with_reducible rfl
    rotate_left
    · simp only [Act.put, List.setIfInBounds_toArray, List.set_cons_zero, List.set_cons_succ, i64_w, i32_w]
      rfl
    refine one_ (i := 3) (N := some 12) #[true, true, true, true, false, true, true, false, false, false] rfl rfl (one_of HT_.out (by kernel_rfl)) (by decide) (fun K hK => ?_)
    refine goes_ Try.func24 (by kernel_rfl) rfl #[.slice A1 l1.length c1, .int .i64 e.f2] (by rfl) rfl rfl (by (try simp only [List.map_toArray, List.map_cons, List.map_nil]); first | done | rfl) ?_
    with_reducible refine (history_Size.calls k A1 c1 l1 e.f2 s _ (bof_up HR1.out HB.out) HC1.out Hs.out).mono ?_
    rintro e w2 ⟨rfl, hb⟩
    refine ⟨_, rfl, ?_⟩
    have n_BKge := Aside0.mk (blk_below (g := ge) (o := .cells #[.int .i64 e.f0, .int .i64 e.f1, .int .i64 e.f2, .int .i64 e.f3, .int .i64 e.f4, .int .i64 e.f5.f0, .int .u64 e.f5.f1, .int .u64 e.f5.f2, .int .i64 e.f5.f3, .int .i64 e.f6.f0, .bool e.f6.f1, .int .u64 e.f6.f2, .slice Ae e.f6.f3.length ce] 38 (0, 0)) BKge.out hb)
    clear BKge
    have BKge := n_BKge
    clear n_BKge
    have n_BKgc := Aside0.mk (blk_below (g := gc) (o := .cells #[.int .i64 t, .int .i64 b, .int .i64 i, .int .i64 f, .int .i64 c] 23 (0, 0)) BKgc.out hb)
    clear BKgc
    have BKgc := n_BKgc
    clear n_BKgc
    have n1_ := Aside0.mk (below_step HB.out hb)
    clear HB hb
    have HB := n1_
    clear n1_
    refine hK.out _ _ ⟨(blk_cell BKge.out 0).trans rfl, (blk_cell BKge.out 1).trans rfl, (blk_cell BKge.out 2).trans rfl, (blk_cell BKge.out 3).trans rfl, (blk_cell BKge.out 4).trans rfl, (blk_cell BKge.out 5).trans rfl, (blk_cell BKge.out 6).trans rfl, (blk_cell BKge.out 7).trans rfl, (blk_cell BKge.out 8).trans rfl, (blk_cell BKge.out 9).trans rfl, (blk_cell BKge.out 10).trans rfl, (blk_cell BKge.out 11).trans rfl, (blk_cell BKge.out 12).trans rfl, (blk_cell BKgc.out 0).trans rfl, (blk_cell BKgc.out 1).trans rfl, (blk_cell BKgc.out 2).trans rfl, (blk_cell BKgc.out 3).trans rfl, (blk_cell BKgc.out 4).trans rfl⟩ (fun hHeld => ?_)
    clear hK K
    refine norm_ (a' := ?_) ?_ ?_
    rotate_left
    · show Act.put _ (some 12) _ = _
      simp only [Act.put, List.setIfInBounds_toArray, List.set_cons_zero, List.set_cons_succ, i64_w, i32_w]
      rfl
    refine pure_ (i := 4) (N := some 13) (v := ?_) (a' := ?_) #[true, true, true, true, true, true, true, false, false, false] rfl rfl (any_of HT_.out (by kernel_rfl)) (fun _ _ _ h => h) (Or.inl ⟨by rfl, ?_⟩) ?_ ?_
    rotate_left
    · intro w'
      go_simp
      with_reducible rfl
    rotate_left
    · simp only [Act.put, List.setIfInBounds_toArray, List.set_cons_zero, List.set_cons_succ, i64_w, i32_w]
      rfl
    generalize hm : (if s < 0 then (0 : Int) else s) = m at h ⊢
    clear hm
    refine one_ (i := 7) (N := some 16) #[true, true, true, true, true, true, true, true, false, false] rfl rfl (one_of HT_.out (by kernel_rfl)) (by decide) (fun K hK => ?_)
    refine goes_ Try.func25 (by kernel_rfl) rfl #[.slice A1 l1.length c1, .agg #[.int .i64 e.f0, .int .i64 e.f1, .int .i64 e.f2, .int .i64 e.f3, .int .i64 e.f4, .int .i64 e.f5.f0, .int .u64 e.f5.f1, .int .u64 e.f5.f2, .int .i64 e.f5.f3, .int .i64 e.f6.f0, .bool e.f6.f1, .int .u64 e.f6.f2, .slice Ae e.f6.f3.length ce]] (by rfl) rfl rfl (by (try simp only [List.map_toArray, List.map_cons, List.map_nil]); first | done | rfl) ?_
    with_reducible refine (history_Inserts.law k A1 c1 l1 e Ae ce n _ (bof_up HR1.out HB.out) Hn.out).mono ?_
    rintro e w3 ⟨rfl, hb⟩
    refine ⟨_, rfl, ?_⟩
    have n_BKge := Aside0.mk (blk_below (g := ge) (o := .cells #[.int .i64 e.f0, .int .i64 e.f1, .int .i64 e.f2, .int .i64 e.f3, .int .i64 e.f4, .int .i64 e.f5.f0, .int .u64 e.f5.f1, .int .u64 e.f5.f2, .int .i64 e.f5.f3, .int .i64 e.f6.f0, .bool e.f6.f1, .int .u64 e.f6.f2, .slice Ae e.f6.f3.length ce] 38 (0, 0)) BKge.out hb)
    clear BKge
    have BKge := n_BKge
    clear n_BKge
    have n_BKgc := Aside0.mk (blk_below (g := gc) (o := .cells #[.int .i64 t, .int .i64 b, .int .i64 i, .int .i64 f, .int .i64 c] 23 (0, 0)) BKgc.out hb)
    clear BKgc
    have BKgc := n_BKgc
    clear n_BKgc
    have n1_ := Aside0.mk (below_step HB.out hb)
    clear HB hb
    have HB := n1_
    clear n1_
    refine hK.out _ _ ⟨(blk_cell BKge.out 0).trans rfl, (blk_cell BKge.out 1).trans rfl, (blk_cell BKge.out 2).trans rfl, (blk_cell BKge.out 3).trans rfl, (blk_cell BKge.out 4).trans rfl, (blk_cell BKge.out 5).trans rfl, (blk_cell BKge.out 6).trans rfl, (blk_cell BKge.out 7).trans rfl, (blk_cell BKge.out 8).trans rfl, (blk_cell BKge.out 9).trans rfl, (blk_cell BKge.out 10).trans rfl, (blk_cell BKge.out 11).trans rfl, (blk_cell BKge.out 12).trans rfl, (blk_cell BKgc.out 0).trans rfl, (blk_cell BKgc.out 1).trans rfl, (blk_cell BKgc.out 2).trans rfl, (blk_cell BKgc.out 3).trans rfl, (blk_cell BKgc.out 4).trans rfl⟩ (fun hHeld => ?_)
    clear hK K
    refine norm_ (a' := ?_) ?_ ?_
    rotate_left
    · show Act.put _ (some 16) _ = _
      simp only [Act.put, List.setIfInBounds_toArray, List.set_cons_zero, List.set_cons_succ, i64_w, i32_w]
      rfl
    refine pure_ (i := 8) (N := some 7) (v := ?_) (a' := ?_) #[true, true, true, true, true, true, true, true, true, false] rfl rfl (any_of HT_.out (by kernel_rfl)) (fun _ _ _ h => h) (Or.inl ⟨by rfl, ?_⟩) ?_ ?_
    rotate_left
    · intro w'
      go_simp
      with_reducible rfl
    rotate_left
    · simp only [Act.put, List.setIfInBounds_toArray, List.set_cons_zero, List.set_cons_succ, i64_w, i32_w]
      rfl
    refine pure_ (i := 9) (N := some 8) (v := ?_) (a' := ?_) #[true, true, true, true, true, true, true, true, true, true] rfl rfl (any_of HT_.out (by kernel_rfl)) (fun _ _ _ h => h) (Or.inl ⟨by rfl, ?_⟩) ?_ ?_
    rotate_left
    · intro w'
      go_simp
      with_reducible rfl
    rotate_left
    · simp only [Act.put, List.setIfInBounds_toArray, List.set_cons_zero, List.set_cons_succ, i64_w, i32_w]
      rfl
    refine done_ (done_of HT_.out (by kernel_rfl)) ?_
    have HH := Aside0.mk h
    clear h
    have cw3ge_0 : w3.cell? ⟨ge, 0, none⟩ = some (.int .i64 e.f0) := (blk_cell BKge.out 0).trans rfl
    have cw3ge_1 : w3.cell? ⟨ge, 1, none⟩ = some (.int .i64 e.f1) := (blk_cell BKge.out 1).trans rfl
    have cw3ge_2 : w3.cell? ⟨ge, 2, none⟩ = some (.int .i64 e.f2) := (blk_cell BKge.out 2).trans rfl
    have cw3ge_3 : w3.cell? ⟨ge, 3, none⟩ = some (.int .i64 e.f3) := (blk_cell BKge.out 3).trans rfl
    have cw3ge_4 : w3.cell? ⟨ge, 4, none⟩ = some (.int .i64 e.f4) := (blk_cell BKge.out 4).trans rfl
    have cw3ge_5 : w3.cell? ⟨ge, 5, none⟩ = some (.int .i64 e.f5.f0) := (blk_cell BKge.out 5).trans rfl
    have cw3ge_6 : w3.cell? ⟨ge, 6, none⟩ = some (.int .u64 e.f5.f1) := (blk_cell BKge.out 6).trans rfl
    have cw3ge_7 : w3.cell? ⟨ge, 7, none⟩ = some (.int .u64 e.f5.f2) := (blk_cell BKge.out 7).trans rfl
    have cw3ge_8 : w3.cell? ⟨ge, 8, none⟩ = some (.int .i64 e.f5.f3) := (blk_cell BKge.out 8).trans rfl
    have cw3ge_9 : w3.cell? ⟨ge, 9, none⟩ = some (.int .i64 e.f6.f0) := (blk_cell BKge.out 9).trans rfl
    have cw3ge_10 : w3.cell? ⟨ge, 10, none⟩ = some (.bool e.f6.f1) := (blk_cell BKge.out 10).trans rfl
    have cw3ge_11 : w3.cell? ⟨ge, 11, none⟩ = some (.int .u64 e.f6.f2) := (blk_cell BKge.out 11).trans rfl
    have cw3ge_12 : w3.cell? ⟨ge, 12, none⟩ = some (.slice Ae e.f6.f3.length ce) := (blk_cell BKge.out 12).trans rfl
    have cw3gc_0 : w3.cell? ⟨gc, 0, none⟩ = some (.int .i64 t) := (blk_cell BKgc.out 0).trans rfl
    have cw3gc_1 : w3.cell? ⟨gc, 1, none⟩ = some (.int .i64 b) := (blk_cell BKgc.out 1).trans rfl
    have cw3gc_2 : w3.cell? ⟨gc, 2, none⟩ = some (.int .i64 i) := (blk_cell BKgc.out 2).trans rfl
    have cw3gc_3 : w3.cell? ⟨gc, 3, none⟩ = some (.int .i64 f) := (blk_cell BKgc.out 3).trans rfl
    have cw3gc_4 : w3.cell? ⟨gc, 4, none⟩ = some (.int .i64 c) := (blk_cell BKgc.out 4).trans rfl
    go_wp2_with (first | (go_at_call 12; (with_reducible refine (bound_Scan.calls k t b i f c m n r _ HH.out).mono ?_); rintro e_ w4 ⟨rfl, hb⟩; have n0_ := Aside0.mk (below_step HB.out hb); clear HB hb; have HB := n0_; clear n0_))
    go_ret
    exact ⟨rfl, by repeat (first | (with_reducible first | exact HB.out | apply below_alloc | apply pw_below_drewN | apply below_drew1) | exact HB.out)⟩
  · rw [if_neg q1] at h
    have q1b : (e.f5.f0 == 4) = false := beq_eq_false_iff_ne.mpr q1
    clear q1
    go_enter Try.func15, Try.ntmps15
    go_wp2_with (first | ((with_reducible refine gate_dst (N := 3) rfl ?_); refine box_event ?hg (N := 3) ?hd (cs := #[.int .i64 t, .int .i64 b, .int .i64 i, .int .i64 f, .int .i64 c]) (t := 23) ?hr ?_; (case hd => rfl); (case hg => rfl); (case hr => first | (go_simp; done) | (go_simp; rfl)); intro gc hg wb_gc hbox hb; have BKgc := Aside0.mk hbox; have n0_ := Aside0.mk (below_step HB.out hb); clear HB; have HB := n0_; clear n0_; clear hb hbox hg) | ((with_reducible refine gate_dst (N := 5) rfl ?_); refine box_event ?hg (N := 5) ?hd (cs := #[.int .i64 e.f0, .int .i64 e.f1, .int .i64 e.f2, .int .i64 e.f3, .int .i64 e.f4, .int .i64 e.f5.f0, .int .u64 e.f5.f1, .int .u64 e.f5.f2, .int .i64 e.f5.f3, .int .i64 e.f6.f0, .bool e.f6.f1, .int .u64 e.f6.f2, .slice Ae e.f6.f3.length ce]) (t := 38) ?hr ?_; (case hd => rfl); (case hg => rfl); (case hr => first | (go_simp; done) | (go_simp; rfl)); intro ge hg wb_ge hbox hb; have BKge := Aside0.mk hbox; have n_BKgc := Aside0.mk (blk_below (g := gc) (o := .cells #[.int .i64 t, .int .i64 b, .int .i64 i, .int .i64 f, .int .i64 c] 23 (0, 0)) BKgc.out hb); clear BKgc; have BKgc := n_BKgc; clear n_BKgc; have n0_ := Aside0.mk (below_step HB.out hb); clear HB; have HB := n0_; clear n0_; clear hb hbox hg))
    have n_BKge := Aside0.mk (blk_drew (g := ge) (o := .cells #[.int .i64 e.f0, .int .i64 e.f1, .int .i64 e.f2, .int .i64 e.f3, .int .i64 e.f4, .int .i64 e.f5.f0, .int .u64 e.f5.f1, .int .u64 e.f5.f2, .int .i64 e.f5.f3, .int .i64 e.f6.f0, .bool e.f6.f1, .int .u64 e.f6.f2, .slice Ae e.f6.f3.length ce] 38 (0, 0)) BKge.out)
    clear BKge
    have BKge := n_BKge
    clear n_BKge
    have n_BKgc := Aside0.mk (blk_drew (g := gc) (o := .cells #[.int .i64 t, .int .i64 b, .int .i64 i, .int .i64 f, .int .i64 c] 23 (0, 0)) BKgc.out)
    clear BKgc
    have BKgc := n_BKgc
    clear n_BKgc
    have n1_ := Aside0.mk (below_drew1 HB.out)
    clear HB
    have HB := n1_
    clear n1_
    refine start_ (n := 10) (S := fun w' => w'.cell? ⟨ge, 0, none⟩ = some (.int .i64 e.f0) ∧ w'.cell? ⟨ge, 1, none⟩ = some (.int .i64 e.f1) ∧ w'.cell? ⟨ge, 2, none⟩ = some (.int .i64 e.f2) ∧ w'.cell? ⟨ge, 3, none⟩ = some (.int .i64 e.f3) ∧ w'.cell? ⟨ge, 4, none⟩ = some (.int .i64 e.f4) ∧ w'.cell? ⟨ge, 5, none⟩ = some (.int .i64 e.f5.f0) ∧ w'.cell? ⟨ge, 6, none⟩ = some (.int .u64 e.f5.f1) ∧ w'.cell? ⟨ge, 7, none⟩ = some (.int .u64 e.f5.f2) ∧ w'.cell? ⟨ge, 8, none⟩ = some (.int .i64 e.f5.f3) ∧ w'.cell? ⟨ge, 9, none⟩ = some (.int .i64 e.f6.f0) ∧ w'.cell? ⟨ge, 10, none⟩ = some (.bool e.f6.f1) ∧ w'.cell? ⟨ge, 11, none⟩ = some (.int .u64 e.f6.f2) ∧ w'.cell? ⟨ge, 12, none⟩ = some (.slice Ae e.f6.f3.length ce) ∧ w'.cell? ⟨gc, 0, none⟩ = some (.int .i64 t) ∧ w'.cell? ⟨gc, 1, none⟩ = some (.int .i64 b) ∧ w'.cell? ⟨gc, 2, none⟩ = some (.int .i64 i) ∧ w'.cell? ⟨gc, 3, none⟩ = some (.int .i64 f) ∧ w'.cell? ⟨gc, 4, none⟩ = some (.int .i64 c)) (ds := []) #[false, false, false, false, false, false, false, false, false, false] (by kernel_rfl) rfl rfl ⟨(blk_cell BKge.out 0).trans rfl, (blk_cell BKge.out 1).trans rfl, (blk_cell BKge.out 2).trans rfl, (blk_cell BKge.out 3).trans rfl, (blk_cell BKge.out 4).trans rfl, (blk_cell BKge.out 5).trans rfl, (blk_cell BKge.out 6).trans rfl, (blk_cell BKge.out 7).trans rfl, (blk_cell BKge.out 8).trans rfl, (blk_cell BKge.out 9).trans rfl, (blk_cell BKge.out 10).trans rfl, (blk_cell BKge.out 11).trans rfl, (blk_cell BKge.out 12).trans rfl, (blk_cell BKgc.out 0).trans rfl, (blk_cell BKgc.out 1).trans rfl, (blk_cell BKgc.out 2).trans rfl, (blk_cell BKgc.out 3).trans rfl, (blk_cell BKgc.out 4).trans rfl⟩ (fun hHeld => ?_); refine with_tabW bound_Of.tab1 bound_Of.bits1 (fun HT_ HW_ => ?_)
    generalize wb_ge.drew = W1 at BKge BKgc HB hHeld ⊢
    refine pure_ (i := 0) (N := some 9) (v := ?_) (a' := ?_) #[true, false, false, false, false, false, false, false, false, false] rfl rfl (any_of HT_.out (by kernel_rfl)) (fun _ _ _ h => h) (Or.inl ⟨by rfl, ?_⟩) ?_ ?_
    rotate_left
    · intro w'
      go_simp
      with_reducible rfl
    rotate_left
    · simp only [Act.put, List.setIfInBounds_toArray, List.set_cons_zero, List.set_cons_succ, i64_w, i32_w]
      rfl
    refine pure_ (i := 1) (N := some 10) (v := ?_) (a' := ?_) #[true, true, false, false, false, false, false, false, false, false] rfl rfl (any_of HT_.out (by kernel_rfl)) (fun _ _ _ h => h) (Or.inl ⟨by rfl, ?_⟩) ?_ ?_
    rotate_left
    · intro w'
      go_simp
      with_reducible rfl
    rotate_left
    · simp only [Act.put, List.setIfInBounds_toArray, List.set_cons_zero, List.set_cons_succ, i64_w, i32_w]
      rfl
    refine take_ (i := 2) (N := some 11) (v := ?_) (a' := ?_) #[true, true, true, false, false, false, false, false, false, false] rfl rfl (take_ofW HT_.out HW_.out (by kernel_rfl)) (fun _ _ _ h => h) (Or.inl ⟨by rfl, ?_⟩) hHeld ?_ ?_
    rotate_left
    · rintro w' ⟨s0, s1, s2, s3, s4, s5, s6, s7, s8, s9, s10, s11, s12, s13, s14, s15, s16, s17⟩
      go_simp
      with_reducible rfl
    rotate_left
    · simp only [Act.put, List.setIfInBounds_toArray, List.set_cons_zero, List.set_cons_succ, i64_w, i32_w]
      rfl
    refine pure_ (i := 5) (N := some 14) (v := ?_) (a' := ?_) #[true, true, true, false, false, true, false, false, false, false] rfl rfl (any_of HT_.out (by kernel_rfl)) (fun _ _ _ h => h) (Or.inl ⟨by rfl, ?_⟩) ?_ ?_
    rotate_left
    · intro w'
      go_simp
      with_reducible rfl
    rotate_left
    · simp only [Act.put, List.setIfInBounds_toArray, List.set_cons_zero, List.set_cons_succ, i64_w, i32_w]
      rfl
    refine take_ (i := 6) (N := some 15) (v := ?_) (a' := ?_) #[true, true, true, false, false, true, true, false, false, false] rfl rfl (take_ofW HT_.out HW_.out (by kernel_rfl)) (fun _ _ _ h => h) (Or.inl ⟨by rfl, ?_⟩) hHeld ?_ ?_
    rotate_left
    · rintro w' ⟨s0, s1, s2, s3, s4, s5, s6, s7, s8, s9, s10, s11, s12, s13, s14, s15, s16, s17⟩
      go_simp
      with_reducible rfl
    rotate_left
    · simp only [Act.put, List.setIfInBounds_toArray, List.set_cons_zero, List.set_cons_succ, i64_w, i32_w]
      rfl
    refine one_ (i := 3) (N := some 12) #[true, true, true, true, false, true, true, false, false, false] rfl rfl (one_of HT_.out (by kernel_rfl)) (by decide) (fun K hK => ?_)
    refine goes_ Try.func24 (by kernel_rfl) rfl #[.slice A1 l1.length c1, .int .i64 e.f2] (by rfl) rfl rfl (by (try simp only [List.map_toArray, List.map_cons, List.map_nil]); first | done | rfl) ?_
    with_reducible refine (history_Size.calls k A1 c1 l1 e.f2 s _ (bof_up HR1.out HB.out) HC1.out Hs.out).mono ?_
    rintro e w2 ⟨rfl, hb⟩
    refine ⟨_, rfl, ?_⟩
    have n_BKge := Aside0.mk (blk_below (g := ge) (o := .cells #[.int .i64 e.f0, .int .i64 e.f1, .int .i64 e.f2, .int .i64 e.f3, .int .i64 e.f4, .int .i64 e.f5.f0, .int .u64 e.f5.f1, .int .u64 e.f5.f2, .int .i64 e.f5.f3, .int .i64 e.f6.f0, .bool e.f6.f1, .int .u64 e.f6.f2, .slice Ae e.f6.f3.length ce] 38 (0, 0)) BKge.out hb)
    clear BKge
    have BKge := n_BKge
    clear n_BKge
    have n_BKgc := Aside0.mk (blk_below (g := gc) (o := .cells #[.int .i64 t, .int .i64 b, .int .i64 i, .int .i64 f, .int .i64 c] 23 (0, 0)) BKgc.out hb)
    clear BKgc
    have BKgc := n_BKgc
    clear n_BKgc
    have n1_ := Aside0.mk (below_step HB.out hb)
    clear HB hb
    have HB := n1_
    clear n1_
    refine hK.out _ _ ⟨(blk_cell BKge.out 0).trans rfl, (blk_cell BKge.out 1).trans rfl, (blk_cell BKge.out 2).trans rfl, (blk_cell BKge.out 3).trans rfl, (blk_cell BKge.out 4).trans rfl, (blk_cell BKge.out 5).trans rfl, (blk_cell BKge.out 6).trans rfl, (blk_cell BKge.out 7).trans rfl, (blk_cell BKge.out 8).trans rfl, (blk_cell BKge.out 9).trans rfl, (blk_cell BKge.out 10).trans rfl, (blk_cell BKge.out 11).trans rfl, (blk_cell BKge.out 12).trans rfl, (blk_cell BKgc.out 0).trans rfl, (blk_cell BKgc.out 1).trans rfl, (blk_cell BKgc.out 2).trans rfl, (blk_cell BKgc.out 3).trans rfl, (blk_cell BKgc.out 4).trans rfl⟩ (fun hHeld => ?_)
    clear hK K
    refine norm_ (a' := ?_) ?_ ?_
    rotate_left
    · show Act.put _ (some 12) _ = _
      simp only [Act.put, List.setIfInBounds_toArray, List.set_cons_zero, List.set_cons_succ, i64_w, i32_w]
      rfl
    refine pure_ (i := 4) (N := some 13) (v := ?_) (a' := ?_) #[true, true, true, true, true, true, true, false, false, false] rfl rfl (any_of HT_.out (by kernel_rfl)) (fun _ _ _ h => h) (Or.inl ⟨by rfl, ?_⟩) ?_ ?_
    rotate_left
    · intro w'
      go_simp
      with_reducible rfl
    rotate_left
    · simp only [Act.put, List.setIfInBounds_toArray, List.set_cons_zero, List.set_cons_succ, i64_w, i32_w]
      rfl
    generalize hm : (if s < 0 then (0 : Int) else s) = m at h ⊢
    clear hm
    refine one_ (i := 7) (N := some 16) #[true, true, true, true, true, true, true, true, false, false] rfl rfl (one_of HT_.out (by kernel_rfl)) (by decide) (fun K hK => ?_)
    refine goes_ Try.func25 (by kernel_rfl) rfl #[.slice A1 l1.length c1, .agg #[.int .i64 e.f0, .int .i64 e.f1, .int .i64 e.f2, .int .i64 e.f3, .int .i64 e.f4, .int .i64 e.f5.f0, .int .u64 e.f5.f1, .int .u64 e.f5.f2, .int .i64 e.f5.f3, .int .i64 e.f6.f0, .bool e.f6.f1, .int .u64 e.f6.f2, .slice Ae e.f6.f3.length ce]] (by rfl) rfl rfl (by (try simp only [List.map_toArray, List.map_cons, List.map_nil]); first | done | rfl) ?_
    with_reducible refine (history_Inserts.law k A1 c1 l1 e Ae ce n _ (bof_up HR1.out HB.out) Hn.out).mono ?_
    rintro e w3 ⟨rfl, hb⟩
    refine ⟨_, rfl, ?_⟩
    have n_BKge := Aside0.mk (blk_below (g := ge) (o := .cells #[.int .i64 e.f0, .int .i64 e.f1, .int .i64 e.f2, .int .i64 e.f3, .int .i64 e.f4, .int .i64 e.f5.f0, .int .u64 e.f5.f1, .int .u64 e.f5.f2, .int .i64 e.f5.f3, .int .i64 e.f6.f0, .bool e.f6.f1, .int .u64 e.f6.f2, .slice Ae e.f6.f3.length ce] 38 (0, 0)) BKge.out hb)
    clear BKge
    have BKge := n_BKge
    clear n_BKge
    have n_BKgc := Aside0.mk (blk_below (g := gc) (o := .cells #[.int .i64 t, .int .i64 b, .int .i64 i, .int .i64 f, .int .i64 c] 23 (0, 0)) BKgc.out hb)
    clear BKgc
    have BKgc := n_BKgc
    clear n_BKgc
    have n1_ := Aside0.mk (below_step HB.out hb)
    clear HB hb
    have HB := n1_
    clear n1_
    refine hK.out _ _ ⟨(blk_cell BKge.out 0).trans rfl, (blk_cell BKge.out 1).trans rfl, (blk_cell BKge.out 2).trans rfl, (blk_cell BKge.out 3).trans rfl, (blk_cell BKge.out 4).trans rfl, (blk_cell BKge.out 5).trans rfl, (blk_cell BKge.out 6).trans rfl, (blk_cell BKge.out 7).trans rfl, (blk_cell BKge.out 8).trans rfl, (blk_cell BKge.out 9).trans rfl, (blk_cell BKge.out 10).trans rfl, (blk_cell BKge.out 11).trans rfl, (blk_cell BKge.out 12).trans rfl, (blk_cell BKgc.out 0).trans rfl, (blk_cell BKgc.out 1).trans rfl, (blk_cell BKgc.out 2).trans rfl, (blk_cell BKgc.out 3).trans rfl, (blk_cell BKgc.out 4).trans rfl⟩ (fun hHeld => ?_)
    clear hK K
    refine norm_ (a' := ?_) ?_ ?_
    rotate_left
    · show Act.put _ (some 16) _ = _
      simp only [Act.put, List.setIfInBounds_toArray, List.set_cons_zero, List.set_cons_succ, i64_w, i32_w]
      rfl
    refine pure_ (i := 8) (N := some 7) (v := ?_) (a' := ?_) #[true, true, true, true, true, true, true, true, true, false] rfl rfl (any_of HT_.out (by kernel_rfl)) (fun _ _ _ h => h) (Or.inl ⟨by rfl, ?_⟩) ?_ ?_
    rotate_left
    · intro w'
      go_simp
      with_reducible rfl
    rotate_left
    · simp only [Act.put, List.setIfInBounds_toArray, List.set_cons_zero, List.set_cons_succ, i64_w, i32_w]
      rfl
    refine pure_ (i := 9) (N := some 8) (v := ?_) (a' := ?_) #[true, true, true, true, true, true, true, true, true, true] rfl rfl (any_of HT_.out (by kernel_rfl)) (fun _ _ _ h => h) (Or.inl ⟨by rfl, ?_⟩) ?_ ?_
    rotate_left
    · intro w'
      go_simp
      with_reducible rfl
    rotate_left
    · simp only [Act.put, List.setIfInBounds_toArray, List.set_cons_zero, List.set_cons_succ, i64_w, i32_w]
      rfl
    refine done_ (done_of HT_.out (by kernel_rfl)) ?_
    have HH := Aside0.mk h
    clear h
    have cw3ge_0 : w3.cell? ⟨ge, 0, none⟩ = some (.int .i64 e.f0) := (blk_cell BKge.out 0).trans rfl
    have cw3ge_1 : w3.cell? ⟨ge, 1, none⟩ = some (.int .i64 e.f1) := (blk_cell BKge.out 1).trans rfl
    have cw3ge_2 : w3.cell? ⟨ge, 2, none⟩ = some (.int .i64 e.f2) := (blk_cell BKge.out 2).trans rfl
    have cw3ge_3 : w3.cell? ⟨ge, 3, none⟩ = some (.int .i64 e.f3) := (blk_cell BKge.out 3).trans rfl
    have cw3ge_4 : w3.cell? ⟨ge, 4, none⟩ = some (.int .i64 e.f4) := (blk_cell BKge.out 4).trans rfl
    have cw3ge_5 : w3.cell? ⟨ge, 5, none⟩ = some (.int .i64 e.f5.f0) := (blk_cell BKge.out 5).trans rfl
    have cw3ge_6 : w3.cell? ⟨ge, 6, none⟩ = some (.int .u64 e.f5.f1) := (blk_cell BKge.out 6).trans rfl
    have cw3ge_7 : w3.cell? ⟨ge, 7, none⟩ = some (.int .u64 e.f5.f2) := (blk_cell BKge.out 7).trans rfl
    have cw3ge_8 : w3.cell? ⟨ge, 8, none⟩ = some (.int .i64 e.f5.f3) := (blk_cell BKge.out 8).trans rfl
    have cw3ge_9 : w3.cell? ⟨ge, 9, none⟩ = some (.int .i64 e.f6.f0) := (blk_cell BKge.out 9).trans rfl
    have cw3ge_10 : w3.cell? ⟨ge, 10, none⟩ = some (.bool e.f6.f1) := (blk_cell BKge.out 10).trans rfl
    have cw3ge_11 : w3.cell? ⟨ge, 11, none⟩ = some (.int .u64 e.f6.f2) := (blk_cell BKge.out 11).trans rfl
    have cw3ge_12 : w3.cell? ⟨ge, 12, none⟩ = some (.slice Ae e.f6.f3.length ce) := (blk_cell BKge.out 12).trans rfl
    have cw3gc_0 : w3.cell? ⟨gc, 0, none⟩ = some (.int .i64 t) := (blk_cell BKgc.out 0).trans rfl
    have cw3gc_1 : w3.cell? ⟨gc, 1, none⟩ = some (.int .i64 b) := (blk_cell BKgc.out 1).trans rfl
    have cw3gc_2 : w3.cell? ⟨gc, 2, none⟩ = some (.int .i64 i) := (blk_cell BKgc.out 2).trans rfl
    have cw3gc_3 : w3.cell? ⟨gc, 3, none⟩ = some (.int .i64 f) := (blk_cell BKgc.out 3).trans rfl
    have cw3gc_4 : w3.cell? ⟨gc, 4, none⟩ = some (.int .i64 c) := (blk_cell BKgc.out 4).trans rfl
    go_wp2_with (first | (go_at_call 10; (with_reducible refine (bound_Point.calls k t b i f c m n r _ HH.out).mono ?_); rintro e_ w4 ⟨rfl, hb⟩; have n0_ := Aside0.mk (below_step HB.out hb); clear HB hb; have HB := n0_; clear n0_))
    go_ret
    exact ⟨rfl, by repeat (first | (with_reducible first | exact HB.out | apply below_alloc | apply pw_below_drewN | apply below_drew1) | exact HB.out)⟩
def bound_Of.f (k : Nat) (a0_0 : Int) (a0_1 : Int) (a0_2 : Int) (a0_3 : Int) (a0_4 : Int) (l1 : List S38) (a2_0 : Int) (a2_1 : Int) (a2_2 : Int) (a2_3 : Int) (a2_4 : Int) (a2_5 : Int) (a2_6 : Int) (a2_7 : Int) (a2_8 : Int) (a2_9 : Int) (a2_10 : Bool) (a2_11 : Int) (l2_12 : List S137) : Option Int := bound_Of.g k a0_0 a0_1 a0_2 a0_3 a0_4 l1 ⟨a2_0, a2_1, a2_2, a2_3, a2_4, ⟨a2_5, a2_6, a2_7, a2_8⟩, ⟨a2_9, a2_10, a2_11, l2_12⟩⟩
theorem bound_Of.mono : ∀ a0_0 a0_1 a0_2 a0_3 a0_4 l1 a2_0 a2_1 a2_2 a2_3 a2_4 a2_5 a2_6 a2_7 a2_8 a2_9 a2_10 a2_11 l2_12 k, LeO (bound_Of.f k a0_0 a0_1 a0_2 a0_3 a0_4 l1 a2_0 a2_1 a2_2 a2_3 a2_4 a2_5 a2_6 a2_7 a2_8 a2_9 a2_10 a2_11 l2_12) (bound_Of.f (k + 1) a0_0 a0_1 a0_2 a0_3 a0_4 l1 a2_0 a2_1 a2_2 a2_3 a2_4 a2_5 a2_6 a2_7 a2_8 a2_9 a2_10 a2_11 l2_12) := by
  intros
  exact bound_Of.gmono _ _ _ _ _ _ _ _
theorem bound_Of.calls (k : Nat) (a0_0 : Int) (a0_1 : Int) (a0_2 : Int) (a0_3 : Int) (a0_4 : Int) (A1 : Option Addr) (c1 : Nat) (l1 : List S38) (a2_0 : Int) (a2_1 : Int) (a2_2 : Int) (a2_3 : Int) (a2_4 : Int) (a2_5 : Int) (a2_6 : Int) (a2_7 : Int) (a2_8 : Int) (a2_9 : Int) (a2_10 : Bool) (a2_11 : Int) (A2_12 : Option Addr) (c2_12 : Nat) (l2_12 : List S137) (r : Int) (w : World) (hr1 : Kd.C k38 w A1 l1.length l1) (hc1 : l1.length ≤ c1) (hr2_12 : Kd.C k137 w A2_12 l2_12.length l2_12) (hc2_12 : l2_12.length ≤ c2_12) (h : bound_Of.f k a0_0 a0_1 a0_2 a0_3 a0_4 l1 a2_0 a2_1 a2_2 a2_3 a2_4 a2_5 a2_6 a2_7 a2_8 a2_9 a2_10 a2_11 l2_12 = some r) :
    Calls Try.prog 15 #[.agg #[.int .i64 a0_0, .int .i64 a0_1, .int .i64 a0_2, .int .i64 a0_3, .int .i64 a0_4], .slice A1 l1.length c1, .agg #[.int .i64 a2_0, .int .i64 a2_1, .int .i64 a2_2, .int .i64 a2_3, .int .i64 a2_4, .int .i64 a2_5, .int .u64 a2_6, .int .u64 a2_7, .int .i64 a2_8, .int .i64 a2_9, .bool a2_10, .int .u64 a2_11, .slice A2_12 l2_12.length c2_12]] w fun e w' => e = .returned (.int .i64 r) ∧ Below w.heap.size w w' :=
  bound_Of.law k a0_0 a0_1 a0_2 a0_3 a0_4 A1 c1 l1 ⟨a2_0, a2_1, a2_2, a2_3, a2_4, ⟨a2_5, a2_6, a2_7, a2_8⟩, ⟨a2_9, a2_10, a2_11, l2_12⟩⟩ A2_12 c2_12 r w hr1 hc1 h


/-! ### bound_Ok: function 17 (by hand) -/
def bound_Ok.T4 : Bool × List (List Nat × List Nat) := (true, [([], []), ([0], [0]), ([], []), ([], []), ([], []), ([2, 3, 4], [2, 3, 4]), ([1, 5], [1, 5])])
def bound_Ok.B4 : List Nat := [0, 1, 0, 0, 0, 28, 63]
theorem bound_Ok.tab4 : rtab .any (opsOf Try.f17 4) = bound_Ok.T4 := by kernel_rfl
theorem bound_Ok.bits4 : waitsOk bound_Ok.T4.2 bound_Ok.B4 = true := by kernel_rfl
def bound_Ok.l0 : Nat → Int → Int → Int → Int → Int → List S38 → Int → Option Bool
  | 0, _, _, _, _, _, _, _ => none
  | k + 1, t, b, i, f, c, l1, j => if j < (l1.length : Int) then (if 0 ≤ j then ((bound_Of.g k t b i f c l1 (rd_T38 l1 j)).bind fun q => if (rd_T38 l1 j).f4 > q then some false else bound_Ok.l0 k t b i f c l1 (wrap64 (j + 1))) else none) else some true
theorem bound_Ok.mono_l : ∀ k t b i f c l1 j, LeO (bound_Ok.l0 k t b i f c l1 j) (bound_Ok.l0 (k + 1) t b i f c l1 j)
  | 0, _, _, _, _, _, _, _ => fun r h => by simp [bound_Ok.l0] at h
  | k + 1, t, b, i, f, c, l1, j => by
    unfold bound_Ok.l0
    exact LeO.ite (LeO.ite (LeO.bind (bound_Of.gmono _ _ _ _ _ _ _ _) (fun _ => LeO.ite (LeO.refl _) (bound_Ok.mono_l k _ _ _ _ _ _ _))) (LeO.refl _)) (LeO.refl _)
def bound_Ok.f (k : Nat) (a0_0 : Int) (a0_1 : Int) (a0_2 : Int) (a0_3 : Int) (a0_4 : Int) (l1 : List S38) : Option Bool := bound_Ok.l0 k a0_0 a0_1 a0_2 a0_3 a0_4 l1 0
theorem bound_Ok.mono : ∀ a0_0 a0_1 a0_2 a0_3 a0_4 l1 k, LeO (bound_Ok.f k a0_0 a0_1 a0_2 a0_3 a0_4 l1) (bound_Ok.f (k + 1) a0_0 a0_1 a0_2 a0_3 a0_4 l1) := by
  intros
  exact bound_Ok.mono_l _ _ _ _ _ _ _ _
set_option maxHeartbeats 8000000 in
set_option maxRecDepth 100000 in
theorem bound_Ok.law (k : Nat) (t b i f c : Int) (A1 : Option Addr) (c1 : Nat) (l1 : List S38) (r : Bool) (w : World) (hr1 : Kd.C k38 w A1 l1.length l1) (hc1 : l1.length ≤ c1) (h : bound_Ok.f k t b i f c l1 = some r) :
    Calls Try.prog 17 #[.agg #[.int .i64 t, .int .i64 b, .int .i64 i, .int .i64 f, .int .i64 c], .slice A1 l1.length c1] w fun e_ w' => e_ = .returned (.bool r) ∧ Below w.heap.size w w' := by
  have HR1 := Aside0.mk hr1
  have HC1 := Aside0.mk hc1
  have H' := Aside0.mk (show bound_Ok.l0 k t b i f c l1 0 = some r from h)
  have HB := Aside0.mk (Below.refl w.heap.size w)
  clear hr1 hc1 h
  go_enter Try.func17, Try.ntmps17
  go_wp2_with (first | ((with_reducible refine gate_dst (N := 2) rfl ?_); refine box_event ?hg (N := 2) ?hd (cs := #[.int .i64 t, .int .i64 b, .int .i64 i, .int .i64 f, .int .i64 c]) (t := 23) ?hr ?_; (case hd => rfl); (case hg => rfl); (case hr => first | (go_simp; done) | (go_simp; rfl)); intro gc hg wb_gc hbox hb; have BKgc := Aside0.mk hbox; have n0_ := Aside0.mk (below_step HB.out hb); clear HB; have HB := n0_; clear n0_; clear hb hbox hg))
  go_loopg [9] k (fun kq v9 w' => ∃ (j : Int), v9 = .int .i64 j ∧ Aside0 (bound_Ok.l0 kq t b i f c l1 j = some r) ∧ Aside0 (kq ≤ k) ∧ Aside0 (w'.heap[gc]? = some (.cells #[.int .i64 t, .int .i64 b, .int .i64 i, .int .i64 f, .int .i64 c] 23 (0, 0))) ∧ Aside0 (Below w.heap.size w w'))
  case atStart => exact ⟨0, by rfl, H', ⟨Nat.le_refl _⟩, ⟨by (with_reducible repeat (first | refine blk_drewN ?_ _ | refine blk_drew ?_ | refine blk_alloc ?_ _)); exact BKgc.out⟩, ⟨by repeat (first | (with_reducible first | exact HB.out | apply below_alloc | apply pw_below_drewN | apply below_drew1) | exact HB.out)⟩⟩
  case round =>
    clear H'
    clear HB BKgc
    try clear p2
    obtain ⟨j, rfl, HA, HK1, BKgc, HB⟩ := hrel
    cases gk with
    | zero => exact absurd HA.out (by simp [bound_Ok.l0])
    | succ k1 =>
      have H := HA.out
      clear HA
      simp only [bound_Ok.l0] at H
      by_cases c4 : j < (l1.length : Int)
      · rw [if_pos c4] at H
        have c4b0 : decide (j < (l1.length : Int)) = true := decide_eq_true c4
        by_cases c5 : 0 ≤ j
        · rw [if_pos c5] at H
          have c5b0 : decide (0 ≤ j) = true := decide_eq_true c5
          obtain ⟨ad, A12, c12, e12, hx0, hx1, hx2, hx3, hx4, hx5, hx6, hx7, hx8, hx9, hx10, hx11, hx12, hl12, hi12⟩ := at_T38 (bof_up HR1.out HB.out) j c5 c4
          cases e12
          have HI := Aside0.mk hi12
          have HL := Aside0.mk hl12
          clear hi12 hl12
          obtain ⟨q, hq, H⟩ := Option.bind_eq_some_iff.mp H
          have Hq := Aside0.mk hq
          clear hq
          by_cases c6 : (rd_T38 l1 j).f4 > q
          · rw [if_pos c6] at H
            obtain rfl := Option.some.inj H
            have c6b : decide (q < (rd_T38 l1 j).f4) = true := decide_eq_true c6
            clear c6 H
            go_wp2
            have BKge := Aside0.mk (blk_new wr (.cells #[.int .i64 (rd_T38 l1 j).f0, .int .i64 (rd_T38 l1 j).f1, .int .i64 (rd_T38 l1 j).f2, .int .i64 (rd_T38 l1 j).f3, .int .i64 (rd_T38 l1 j).f4, .int .i64 (rd_T38 l1 j).f5.f0, .int .u64 (rd_T38 l1 j).f5.f1, .int .u64 (rd_T38 l1 j).f5.f2, .int .i64 (rd_T38 l1 j).f5.f3, .int .i64 (rd_T38 l1 j).f6.f0, .bool (rd_T38 l1 j).f6.f1, .int .u64 (rd_T38 l1 j).f6.f2, .slice A12 (rd_T38 l1 j).f6.f3.length c12] 38 (0, 0)))
            have n_ := Aside0.mk (blk_alloc (g := gc) (o := .cells #[.int .i64 t, .int .i64 b, .int .i64 i, .int .i64 f, .int .i64 c] 23 (0, 0)) BKgc.out (.cells #[.int .i64 (rd_T38 l1 j).f0, .int .i64 (rd_T38 l1 j).f1, .int .i64 (rd_T38 l1 j).f2, .int .i64 (rd_T38 l1 j).f3, .int .i64 (rd_T38 l1 j).f4, .int .i64 (rd_T38 l1 j).f5.f0, .int .u64 (rd_T38 l1 j).f5.f1, .int .u64 (rd_T38 l1 j).f5.f2, .int .i64 (rd_T38 l1 j).f5.f3, .int .i64 (rd_T38 l1 j).f6.f0, .bool (rd_T38 l1 j).f6.f1, .int .u64 (rd_T38 l1 j).f6.f2, .slice A12 (rd_T38 l1 j).f6.f3.length c12] 38 (0, 0)))
            clear BKgc
            have BKgc := n_
            clear n_
            have n_ := Aside0.mk (below_alloc HB.out (.cells #[.int .i64 (rd_T38 l1 j).f0, .int .i64 (rd_T38 l1 j).f1, .int .i64 (rd_T38 l1 j).f2, .int .i64 (rd_T38 l1 j).f3, .int .i64 (rd_T38 l1 j).f4, .int .i64 (rd_T38 l1 j).f5.f0, .int .u64 (rd_T38 l1 j).f5.f1, .int .u64 (rd_T38 l1 j).f5.f2, .int .i64 (rd_T38 l1 j).f5.f3, .int .i64 (rd_T38 l1 j).f6.f0, .bool (rd_T38 l1 j).f6.f1, .int .u64 (rd_T38 l1 j).f6.f2, .slice A12 (rd_T38 l1 j).f6.f3.length c12] 38 (0, 0)))
            clear HB
            have HB := n_
            clear n_
            have n_BKge := Aside0.mk (blk_drew (g := wr.heap.size) (o := .cells #[.int .i64 (rd_T38 l1 j).f0, .int .i64 (rd_T38 l1 j).f1, .int .i64 (rd_T38 l1 j).f2, .int .i64 (rd_T38 l1 j).f3, .int .i64 (rd_T38 l1 j).f4, .int .i64 (rd_T38 l1 j).f5.f0, .int .u64 (rd_T38 l1 j).f5.f1, .int .u64 (rd_T38 l1 j).f5.f2, .int .i64 (rd_T38 l1 j).f5.f3, .int .i64 (rd_T38 l1 j).f6.f0, .bool (rd_T38 l1 j).f6.f1, .int .u64 (rd_T38 l1 j).f6.f2, .slice A12 (rd_T38 l1 j).f6.f3.length c12] 38 (0, 0)) BKge.out)
            clear BKge
            have BKge := n_BKge
            clear n_BKge
            have n_BKgc := Aside0.mk (blk_drew (g := gc) (o := .cells #[.int .i64 t, .int .i64 b, .int .i64 i, .int .i64 f, .int .i64 c] 23 (0, 0)) BKgc.out)
            clear BKgc
            have BKgc := n_BKgc
            clear n_BKgc
            have n1_ := Aside0.mk (below_drew1 HB.out)
            clear HB
            have HB := n1_
            clear n1_
            refine start_ (n := 7) (S := fun w' => w'.cell? ⟨wr.heap.size, 0, none⟩ = some (.int .i64 (rd_T38 l1 j).f0) ∧ w'.cell? ⟨wr.heap.size, 1, none⟩ = some (.int .i64 (rd_T38 l1 j).f1) ∧ w'.cell? ⟨wr.heap.size, 2, none⟩ = some (.int .i64 (rd_T38 l1 j).f2) ∧ w'.cell? ⟨wr.heap.size, 3, none⟩ = some (.int .i64 (rd_T38 l1 j).f3) ∧ w'.cell? ⟨wr.heap.size, 4, none⟩ = some (.int .i64 (rd_T38 l1 j).f4) ∧ w'.cell? ⟨wr.heap.size, 5, none⟩ = some (.int .i64 (rd_T38 l1 j).f5.f0) ∧ w'.cell? ⟨wr.heap.size, 6, none⟩ = some (.int .u64 (rd_T38 l1 j).f5.f1) ∧ w'.cell? ⟨wr.heap.size, 7, none⟩ = some (.int .u64 (rd_T38 l1 j).f5.f2) ∧ w'.cell? ⟨wr.heap.size, 8, none⟩ = some (.int .i64 (rd_T38 l1 j).f5.f3) ∧ w'.cell? ⟨wr.heap.size, 9, none⟩ = some (.int .i64 (rd_T38 l1 j).f6.f0) ∧ w'.cell? ⟨wr.heap.size, 10, none⟩ = some (.bool (rd_T38 l1 j).f6.f1) ∧ w'.cell? ⟨wr.heap.size, 11, none⟩ = some (.int .u64 (rd_T38 l1 j).f6.f2) ∧ w'.cell? ⟨wr.heap.size, 12, none⟩ = some (.slice A12 (rd_T38 l1 j).f6.f3.length c12) ∧ w'.cell? ⟨gc, 0, none⟩ = some (.int .i64 t) ∧ w'.cell? ⟨gc, 1, none⟩ = some (.int .i64 b) ∧ w'.cell? ⟨gc, 2, none⟩ = some (.int .i64 i) ∧ w'.cell? ⟨gc, 3, none⟩ = some (.int .i64 f) ∧ w'.cell? ⟨gc, 4, none⟩ = some (.int .i64 c)) (ds := []) #[false, false, false, false, false, false, false] (by kernel_rfl) rfl rfl ⟨(blk_cell BKge.out 0).trans rfl, (blk_cell BKge.out 1).trans rfl, (blk_cell BKge.out 2).trans rfl, (blk_cell BKge.out 3).trans rfl, (blk_cell BKge.out 4).trans rfl, (blk_cell BKge.out 5).trans rfl, (blk_cell BKge.out 6).trans rfl, (blk_cell BKge.out 7).trans rfl, (blk_cell BKge.out 8).trans rfl, (blk_cell BKge.out 9).trans rfl, (blk_cell BKge.out 10).trans rfl, (blk_cell BKge.out 11).trans rfl, (blk_cell BKge.out 12).trans rfl, (blk_cell BKgc.out 0).trans rfl, (blk_cell BKgc.out 1).trans rfl, (blk_cell BKgc.out 2).trans rfl, (blk_cell BKgc.out 3).trans rfl, (blk_cell BKgc.out 4).trans rfl⟩ (fun hHeld => ?_); refine with_tabW bound_Ok.tab4 bound_Ok.bits4 (fun HT_ HW_ => ?_)
            generalize (wr.alloc (.cells #[.int .i64 (rd_T38 l1 j).f0, .int .i64 (rd_T38 l1 j).f1, .int .i64 (rd_T38 l1 j).f2, .int .i64 (rd_T38 l1 j).f3, .int .i64 (rd_T38 l1 j).f4, .int .i64 (rd_T38 l1 j).f5.f0, .int .u64 (rd_T38 l1 j).f5.f1, .int .u64 (rd_T38 l1 j).f5.f2, .int .i64 (rd_T38 l1 j).f5.f3, .int .i64 (rd_T38 l1 j).f6.f0, .bool (rd_T38 l1 j).f6.f1, .int .u64 (rd_T38 l1 j).f6.f2, .slice A12 (rd_T38 l1 j).f6.f3.length c12] 38 (0, 0))).drew = W1 at BKge BKgc HB hHeld ⊢
            refine pure_ (i := 0) (N := some 13) (v := ?_) (a' := ?_) #[true, false, false, false, false, false, false] rfl rfl (any_of HT_.out (by kernel_rfl)) (fun _ _ _ h => h) (Or.inl ⟨by rfl, ?_⟩) ?_ ?_
            rotate_left
            · intro w'
              go_simp
              with_reducible rfl
            rotate_left
            · simp only [Act.put, List.setIfInBounds_toArray, List.set_cons_zero, List.set_cons_succ, i64_w, i32_w]
              rfl
            refine take_ (i := 1) (N := some 14) (v := ?_) (a' := ?_) #[true, true, false, false, false, false, false] rfl rfl (take_ofW HT_.out HW_.out (by kernel_rfl)) (fun _ _ _ h => h) (Or.inl ⟨by rfl, ?_⟩) hHeld ?_ ?_
            rotate_left
            · rintro w' ⟨s0, s1, s2, s3, s4, s5, s6, s7, s8, s9, s10, s11, s12, s13, s14, s15, s16, s17⟩
              go_simp
              with_reducible rfl
            rotate_left
            · simp only [Act.put, List.setIfInBounds_toArray, List.set_cons_zero, List.set_cons_succ, i64_w, i32_w]
              rfl
            refine take_ (i := 2) (N := some 15) (v := ?_) (a' := ?_) #[true, true, true, false, false, false, false] rfl rfl (take_ofW HT_.out HW_.out (by kernel_rfl)) (fun _ _ _ h => h) (Or.inl ⟨by rfl, ?_⟩) hHeld ?_ ?_
            rotate_left
            · rintro w' ⟨s0, s1, s2, s3, s4, s5, s6, s7, s8, s9, s10, s11, s12, s13, s14, s15, s16, s17⟩
              go_simp
              with_reducible rfl
            rotate_left
            · simp only [Act.put, List.setIfInBounds_toArray, List.set_cons_zero, List.set_cons_succ, i64_w, i32_w]
              rfl
            refine pure_ (i := 3) (N := some 16) (v := ?_) (a' := ?_) #[true, true, true, true, false, false, false] rfl rfl (any_of HT_.out (by kernel_rfl)) (fun _ _ _ h => h) (Or.inl ⟨by rfl, ?_⟩) ?_ ?_
            rotate_left
            · intro w'
              go_simp
              with_reducible rfl
            rotate_left
            · simp only [Act.put, List.setIfInBounds_toArray, List.set_cons_zero, List.set_cons_succ, i64_w, i32_w]
              rfl
            refine take_ (i := 4) (N := some 17) (v := ?_) (a' := ?_) #[true, true, true, true, true, false, false] rfl rfl (take_ofW HT_.out HW_.out (by kernel_rfl)) (fun _ _ _ h => h) (Or.inl ⟨by rfl, ?_⟩) hHeld ?_ ?_
            rotate_left
            · rintro w' ⟨s0, s1, s2, s3, s4, s5, s6, s7, s8, s9, s10, s11, s12, s13, s14, s15, s16, s17⟩
              go_simp
              with_reducible rfl
            rotate_left
            · simp only [Act.put, List.setIfInBounds_toArray, List.set_cons_zero, List.set_cons_succ, i64_w, i32_w]
              rfl
            refine one_ (i := 5) (N := some 18) #[true, true, true, true, true, true, false] rfl rfl (one_of HT_.out (by kernel_rfl)) (by decide) (fun K hK => ?_)
            refine goes_ Try.func15 (by kernel_rfl) rfl #[.agg #[.int .i64 t, .int .i64 b, .int .i64 i, .int .i64 f, .int .i64 c], .slice (some ad) l1.length c1, .agg #[.int .i64 (rd_T38 l1 j).f0, .int .i64 (rd_T38 l1 j).f1, .int .i64 (rd_T38 l1 j).f2, .int .i64 (rd_T38 l1 j).f3, .int .i64 (rd_T38 l1 j).f4, .int .i64 (rd_T38 l1 j).f5.f0, .int .u64 (rd_T38 l1 j).f5.f1, .int .u64 (rd_T38 l1 j).f5.f2, .int .i64 (rd_T38 l1 j).f5.f3, .int .i64 (rd_T38 l1 j).f6.f0, .bool (rd_T38 l1 j).f6.f1, .int .u64 (rd_T38 l1 j).f6.f2, .slice A12 (rd_T38 l1 j).f6.f3.length c12]] (by rfl) rfl rfl (by (try simp only [List.map_toArray, List.map_cons, List.map_nil]); first | done | rfl) ?_
            with_reducible refine (bound_Of.law k1 t b i f c (some ad) c1 l1 (rd_T38 l1 j) A12 c12 q _ (bof_up HR1.out HB.out) HC1.out Hq.out).mono ?_
            rintro e w2 ⟨rfl, hb⟩
            refine ⟨_, rfl, ?_⟩
            have n_BKge := Aside0.mk (blk_below (g := wr.heap.size) (o := .cells #[.int .i64 (rd_T38 l1 j).f0, .int .i64 (rd_T38 l1 j).f1, .int .i64 (rd_T38 l1 j).f2, .int .i64 (rd_T38 l1 j).f3, .int .i64 (rd_T38 l1 j).f4, .int .i64 (rd_T38 l1 j).f5.f0, .int .u64 (rd_T38 l1 j).f5.f1, .int .u64 (rd_T38 l1 j).f5.f2, .int .i64 (rd_T38 l1 j).f5.f3, .int .i64 (rd_T38 l1 j).f6.f0, .bool (rd_T38 l1 j).f6.f1, .int .u64 (rd_T38 l1 j).f6.f2, .slice A12 (rd_T38 l1 j).f6.f3.length c12] 38 (0, 0)) BKge.out hb)
            clear BKge
            have BKge := n_BKge
            clear n_BKge
            have n_BKgc := Aside0.mk (blk_below (g := gc) (o := .cells #[.int .i64 t, .int .i64 b, .int .i64 i, .int .i64 f, .int .i64 c] 23 (0, 0)) BKgc.out hb)
            clear BKgc
            have BKgc := n_BKgc
            clear n_BKgc
            have n1_ := Aside0.mk (below_step HB.out hb)
            clear HB hb
            have HB := n1_
            clear n1_
            refine hK.out _ _ ⟨(blk_cell BKge.out 0).trans rfl, (blk_cell BKge.out 1).trans rfl, (blk_cell BKge.out 2).trans rfl, (blk_cell BKge.out 3).trans rfl, (blk_cell BKge.out 4).trans rfl, (blk_cell BKge.out 5).trans rfl, (blk_cell BKge.out 6).trans rfl, (blk_cell BKge.out 7).trans rfl, (blk_cell BKge.out 8).trans rfl, (blk_cell BKge.out 9).trans rfl, (blk_cell BKge.out 10).trans rfl, (blk_cell BKge.out 11).trans rfl, (blk_cell BKge.out 12).trans rfl, (blk_cell BKgc.out 0).trans rfl, (blk_cell BKgc.out 1).trans rfl, (blk_cell BKgc.out 2).trans rfl, (blk_cell BKgc.out 3).trans rfl, (blk_cell BKgc.out 4).trans rfl⟩ (fun hHeld => ?_)
            clear hK K
            refine norm_ (a' := ?_) ?_ ?_
            rotate_left
            · show Act.put _ (some 18) _ = _
              simp only [Act.put, List.setIfInBounds_toArray, List.set_cons_zero, List.set_cons_succ, i64_w, i32_w]
              rfl
            refine pure_ (i := 6) (N := some 19) (v := ?_) (a' := ?_) #[true, true, true, true, true, true, true] rfl rfl (any_of HT_.out (by kernel_rfl)) (fun _ _ _ h => h) (Or.inl ⟨by rfl, ?_⟩) ?_ ?_
            rotate_left
            · intro w'
              go_simp
              with_reducible rfl
            rotate_left
            · simp only [Act.put, List.setIfInBounds_toArray, List.set_cons_zero, List.set_cons_succ, i64_w, i32_w]
              rfl
            refine done_ (done_of HT_.out (by kernel_rfl)) ?_
            go_wp2
            go_ret
            exact ⟨by first | rfl | (simp [*]; done), by repeat (first | (with_reducible first | exact HB.out | apply below_alloc | apply pw_below_drewN | apply below_drew1) | exact HB.out)⟩
          · rw [if_neg c6] at H
            have c6b : decide (q < (rd_T38 l1 j).f4) = false := decide_eq_false c6
            clear c6
            have H' := Aside0.mk H
            clear H
            go_wp2
            have BKge := Aside0.mk (blk_new wr (.cells #[.int .i64 (rd_T38 l1 j).f0, .int .i64 (rd_T38 l1 j).f1, .int .i64 (rd_T38 l1 j).f2, .int .i64 (rd_T38 l1 j).f3, .int .i64 (rd_T38 l1 j).f4, .int .i64 (rd_T38 l1 j).f5.f0, .int .u64 (rd_T38 l1 j).f5.f1, .int .u64 (rd_T38 l1 j).f5.f2, .int .i64 (rd_T38 l1 j).f5.f3, .int .i64 (rd_T38 l1 j).f6.f0, .bool (rd_T38 l1 j).f6.f1, .int .u64 (rd_T38 l1 j).f6.f2, .slice A12 (rd_T38 l1 j).f6.f3.length c12] 38 (0, 0)))
            have n_ := Aside0.mk (blk_alloc (g := gc) (o := .cells #[.int .i64 t, .int .i64 b, .int .i64 i, .int .i64 f, .int .i64 c] 23 (0, 0)) BKgc.out (.cells #[.int .i64 (rd_T38 l1 j).f0, .int .i64 (rd_T38 l1 j).f1, .int .i64 (rd_T38 l1 j).f2, .int .i64 (rd_T38 l1 j).f3, .int .i64 (rd_T38 l1 j).f4, .int .i64 (rd_T38 l1 j).f5.f0, .int .u64 (rd_T38 l1 j).f5.f1, .int .u64 (rd_T38 l1 j).f5.f2, .int .i64 (rd_T38 l1 j).f5.f3, .int .i64 (rd_T38 l1 j).f6.f0, .bool (rd_T38 l1 j).f6.f1, .int .u64 (rd_T38 l1 j).f6.f2, .slice A12 (rd_T38 l1 j).f6.f3.length c12] 38 (0, 0)))
            clear BKgc
            have BKgc := n_
            clear n_
            have n_ := Aside0.mk (below_alloc HB.out (.cells #[.int .i64 (rd_T38 l1 j).f0, .int .i64 (rd_T38 l1 j).f1, .int .i64 (rd_T38 l1 j).f2, .int .i64 (rd_T38 l1 j).f3, .int .i64 (rd_T38 l1 j).f4, .int .i64 (rd_T38 l1 j).f5.f0, .int .u64 (rd_T38 l1 j).f5.f1, .int .u64 (rd_T38 l1 j).f5.f2, .int .i64 (rd_T38 l1 j).f5.f3, .int .i64 (rd_T38 l1 j).f6.f0, .bool (rd_T38 l1 j).f6.f1, .int .u64 (rd_T38 l1 j).f6.f2, .slice A12 (rd_T38 l1 j).f6.f3.length c12] 38 (0, 0)))
            clear HB
            have HB := n_
            clear n_
            have n_BKge := Aside0.mk (blk_drew (g := wr.heap.size) (o := .cells #[.int .i64 (rd_T38 l1 j).f0, .int .i64 (rd_T38 l1 j).f1, .int .i64 (rd_T38 l1 j).f2, .int .i64 (rd_T38 l1 j).f3, .int .i64 (rd_T38 l1 j).f4, .int .i64 (rd_T38 l1 j).f5.f0, .int .u64 (rd_T38 l1 j).f5.f1, .int .u64 (rd_T38 l1 j).f5.f2, .int .i64 (rd_T38 l1 j).f5.f3, .int .i64 (rd_T38 l1 j).f6.f0, .bool (rd_T38 l1 j).f6.f1, .int .u64 (rd_T38 l1 j).f6.f2, .slice A12 (rd_T38 l1 j).f6.f3.length c12] 38 (0, 0)) BKge.out)
            clear BKge
            have BKge := n_BKge
            clear n_BKge
            have n_BKgc := Aside0.mk (blk_drew (g := gc) (o := .cells #[.int .i64 t, .int .i64 b, .int .i64 i, .int .i64 f, .int .i64 c] 23 (0, 0)) BKgc.out)
            clear BKgc
            have BKgc := n_BKgc
            clear n_BKgc
            have n1_ := Aside0.mk (below_drew1 HB.out)
            clear HB
            have HB := n1_
            clear n1_
            refine start_ (n := 7) (S := fun w' => w'.cell? ⟨wr.heap.size, 0, none⟩ = some (.int .i64 (rd_T38 l1 j).f0) ∧ w'.cell? ⟨wr.heap.size, 1, none⟩ = some (.int .i64 (rd_T38 l1 j).f1) ∧ w'.cell? ⟨wr.heap.size, 2, none⟩ = some (.int .i64 (rd_T38 l1 j).f2) ∧ w'.cell? ⟨wr.heap.size, 3, none⟩ = some (.int .i64 (rd_T38 l1 j).f3) ∧ w'.cell? ⟨wr.heap.size, 4, none⟩ = some (.int .i64 (rd_T38 l1 j).f4) ∧ w'.cell? ⟨wr.heap.size, 5, none⟩ = some (.int .i64 (rd_T38 l1 j).f5.f0) ∧ w'.cell? ⟨wr.heap.size, 6, none⟩ = some (.int .u64 (rd_T38 l1 j).f5.f1) ∧ w'.cell? ⟨wr.heap.size, 7, none⟩ = some (.int .u64 (rd_T38 l1 j).f5.f2) ∧ w'.cell? ⟨wr.heap.size, 8, none⟩ = some (.int .i64 (rd_T38 l1 j).f5.f3) ∧ w'.cell? ⟨wr.heap.size, 9, none⟩ = some (.int .i64 (rd_T38 l1 j).f6.f0) ∧ w'.cell? ⟨wr.heap.size, 10, none⟩ = some (.bool (rd_T38 l1 j).f6.f1) ∧ w'.cell? ⟨wr.heap.size, 11, none⟩ = some (.int .u64 (rd_T38 l1 j).f6.f2) ∧ w'.cell? ⟨wr.heap.size, 12, none⟩ = some (.slice A12 (rd_T38 l1 j).f6.f3.length c12) ∧ w'.cell? ⟨gc, 0, none⟩ = some (.int .i64 t) ∧ w'.cell? ⟨gc, 1, none⟩ = some (.int .i64 b) ∧ w'.cell? ⟨gc, 2, none⟩ = some (.int .i64 i) ∧ w'.cell? ⟨gc, 3, none⟩ = some (.int .i64 f) ∧ w'.cell? ⟨gc, 4, none⟩ = some (.int .i64 c)) (ds := []) #[false, false, false, false, false, false, false] (by kernel_rfl) rfl rfl ⟨(blk_cell BKge.out 0).trans rfl, (blk_cell BKge.out 1).trans rfl, (blk_cell BKge.out 2).trans rfl, (blk_cell BKge.out 3).trans rfl, (blk_cell BKge.out 4).trans rfl, (blk_cell BKge.out 5).trans rfl, (blk_cell BKge.out 6).trans rfl, (blk_cell BKge.out 7).trans rfl, (blk_cell BKge.out 8).trans rfl, (blk_cell BKge.out 9).trans rfl, (blk_cell BKge.out 10).trans rfl, (blk_cell BKge.out 11).trans rfl, (blk_cell BKge.out 12).trans rfl, (blk_cell BKgc.out 0).trans rfl, (blk_cell BKgc.out 1).trans rfl, (blk_cell BKgc.out 2).trans rfl, (blk_cell BKgc.out 3).trans rfl, (blk_cell BKgc.out 4).trans rfl⟩ (fun hHeld => ?_); refine with_tabW bound_Ok.tab4 bound_Ok.bits4 (fun HT_ HW_ => ?_)
            generalize (wr.alloc (.cells #[.int .i64 (rd_T38 l1 j).f0, .int .i64 (rd_T38 l1 j).f1, .int .i64 (rd_T38 l1 j).f2, .int .i64 (rd_T38 l1 j).f3, .int .i64 (rd_T38 l1 j).f4, .int .i64 (rd_T38 l1 j).f5.f0, .int .u64 (rd_T38 l1 j).f5.f1, .int .u64 (rd_T38 l1 j).f5.f2, .int .i64 (rd_T38 l1 j).f5.f3, .int .i64 (rd_T38 l1 j).f6.f0, .bool (rd_T38 l1 j).f6.f1, .int .u64 (rd_T38 l1 j).f6.f2, .slice A12 (rd_T38 l1 j).f6.f3.length c12] 38 (0, 0))).drew = W1 at BKge BKgc HB hHeld ⊢
            refine pure_ (i := 0) (N := some 13) (v := ?_) (a' := ?_) #[true, false, false, false, false, false, false] rfl rfl (any_of HT_.out (by kernel_rfl)) (fun _ _ _ h => h) (Or.inl ⟨by rfl, ?_⟩) ?_ ?_
            rotate_left
            · intro w'
              go_simp
              with_reducible rfl
            rotate_left
            · simp only [Act.put, List.setIfInBounds_toArray, List.set_cons_zero, List.set_cons_succ, i64_w, i32_w]
              rfl
            refine take_ (i := 1) (N := some 14) (v := ?_) (a' := ?_) #[true, true, false, false, false, false, false] rfl rfl (take_ofW HT_.out HW_.out (by kernel_rfl)) (fun _ _ _ h => h) (Or.inl ⟨by rfl, ?_⟩) hHeld ?_ ?_
            rotate_left
            · rintro w' ⟨s0, s1, s2, s3, s4, s5, s6, s7, s8, s9, s10, s11, s12, s13, s14, s15, s16, s17⟩
              go_simp
              with_reducible rfl
            rotate_left
            · simp only [Act.put, List.setIfInBounds_toArray, List.set_cons_zero, List.set_cons_succ, i64_w, i32_w]
              rfl
            refine take_ (i := 2) (N := some 15) (v := ?_) (a' := ?_) #[true, true, true, false, false, false, false] rfl rfl (take_ofW HT_.out HW_.out (by kernel_rfl)) (fun _ _ _ h => h) (Or.inl ⟨by rfl, ?_⟩) hHeld ?_ ?_
            rotate_left
            · rintro w' ⟨s0, s1, s2, s3, s4, s5, s6, s7, s8, s9, s10, s11, s12, s13, s14, s15, s16, s17⟩
              go_simp
              with_reducible rfl
            rotate_left
            · simp only [Act.put, List.setIfInBounds_toArray, List.set_cons_zero, List.set_cons_succ, i64_w, i32_w]
              rfl
            refine pure_ (i := 3) (N := some 16) (v := ?_) (a' := ?_) #[true, true, true, true, false, false, false] rfl rfl (any_of HT_.out (by kernel_rfl)) (fun _ _ _ h => h) (Or.inl ⟨by rfl, ?_⟩) ?_ ?_
            rotate_left
            · intro w'
              go_simp
              with_reducible rfl
            rotate_left
            · simp only [Act.put, List.setIfInBounds_toArray, List.set_cons_zero, List.set_cons_succ, i64_w, i32_w]
              rfl
            refine take_ (i := 4) (N := some 17) (v := ?_) (a' := ?_) #[true, true, true, true, true, false, false] rfl rfl (take_ofW HT_.out HW_.out (by kernel_rfl)) (fun _ _ _ h => h) (Or.inl ⟨by rfl, ?_⟩) hHeld ?_ ?_
            rotate_left
            · rintro w' ⟨s0, s1, s2, s3, s4, s5, s6, s7, s8, s9, s10, s11, s12, s13, s14, s15, s16, s17⟩
              go_simp
              with_reducible rfl
            rotate_left
            · simp only [Act.put, List.setIfInBounds_toArray, List.set_cons_zero, List.set_cons_succ, i64_w, i32_w]
              rfl
            refine one_ (i := 5) (N := some 18) #[true, true, true, true, true, true, false] rfl rfl (one_of HT_.out (by kernel_rfl)) (by decide) (fun K hK => ?_)
            refine goes_ Try.func15 (by kernel_rfl) rfl #[.agg #[.int .i64 t, .int .i64 b, .int .i64 i, .int .i64 f, .int .i64 c], .slice (some ad) l1.length c1, .agg #[.int .i64 (rd_T38 l1 j).f0, .int .i64 (rd_T38 l1 j).f1, .int .i64 (rd_T38 l1 j).f2, .int .i64 (rd_T38 l1 j).f3, .int .i64 (rd_T38 l1 j).f4, .int .i64 (rd_T38 l1 j).f5.f0, .int .u64 (rd_T38 l1 j).f5.f1, .int .u64 (rd_T38 l1 j).f5.f2, .int .i64 (rd_T38 l1 j).f5.f3, .int .i64 (rd_T38 l1 j).f6.f0, .bool (rd_T38 l1 j).f6.f1, .int .u64 (rd_T38 l1 j).f6.f2, .slice A12 (rd_T38 l1 j).f6.f3.length c12]] (by rfl) rfl rfl (by (try simp only [List.map_toArray, List.map_cons, List.map_nil]); first | done | rfl) ?_
            with_reducible refine (bound_Of.law k1 t b i f c (some ad) c1 l1 (rd_T38 l1 j) A12 c12 q _ (bof_up HR1.out HB.out) HC1.out Hq.out).mono ?_
            rintro e w2 ⟨rfl, hb⟩
            refine ⟨_, rfl, ?_⟩
            have n_BKge := Aside0.mk (blk_below (g := wr.heap.size) (o := .cells #[.int .i64 (rd_T38 l1 j).f0, .int .i64 (rd_T38 l1 j).f1, .int .i64 (rd_T38 l1 j).f2, .int .i64 (rd_T38 l1 j).f3, .int .i64 (rd_T38 l1 j).f4, .int .i64 (rd_T38 l1 j).f5.f0, .int .u64 (rd_T38 l1 j).f5.f1, .int .u64 (rd_T38 l1 j).f5.f2, .int .i64 (rd_T38 l1 j).f5.f3, .int .i64 (rd_T38 l1 j).f6.f0, .bool (rd_T38 l1 j).f6.f1, .int .u64 (rd_T38 l1 j).f6.f2, .slice A12 (rd_T38 l1 j).f6.f3.length c12] 38 (0, 0)) BKge.out hb)
            clear BKge
            have BKge := n_BKge
            clear n_BKge
            have n_BKgc := Aside0.mk (blk_below (g := gc) (o := .cells #[.int .i64 t, .int .i64 b, .int .i64 i, .int .i64 f, .int .i64 c] 23 (0, 0)) BKgc.out hb)
            clear BKgc
            have BKgc := n_BKgc
            clear n_BKgc
            have n1_ := Aside0.mk (below_step HB.out hb)
            clear HB hb
            have HB := n1_
            clear n1_
            refine hK.out _ _ ⟨(blk_cell BKge.out 0).trans rfl, (blk_cell BKge.out 1).trans rfl, (blk_cell BKge.out 2).trans rfl, (blk_cell BKge.out 3).trans rfl, (blk_cell BKge.out 4).trans rfl, (blk_cell BKge.out 5).trans rfl, (blk_cell BKge.out 6).trans rfl, (blk_cell BKge.out 7).trans rfl, (blk_cell BKge.out 8).trans rfl, (blk_cell BKge.out 9).trans rfl, (blk_cell BKge.out 10).trans rfl, (blk_cell BKge.out 11).trans rfl, (blk_cell BKge.out 12).trans rfl, (blk_cell BKgc.out 0).trans rfl, (blk_cell BKgc.out 1).trans rfl, (blk_cell BKgc.out 2).trans rfl, (blk_cell BKgc.out 3).trans rfl, (blk_cell BKgc.out 4).trans rfl⟩ (fun hHeld => ?_)
            clear hK K
            refine norm_ (a' := ?_) ?_ ?_
            rotate_left
            · show Act.put _ (some 18) _ = _
              simp only [Act.put, List.setIfInBounds_toArray, List.set_cons_zero, List.set_cons_succ, i64_w, i32_w]
              rfl
            refine pure_ (i := 6) (N := some 19) (v := ?_) (a' := ?_) #[true, true, true, true, true, true, true] rfl rfl (any_of HT_.out (by kernel_rfl)) (fun _ _ _ h => h) (Or.inl ⟨by rfl, ?_⟩) ?_ ?_
            rotate_left
            · intro w'
              go_simp
              with_reducible rfl
            rotate_left
            · simp only [Act.put, List.setIfInBounds_toArray, List.set_cons_zero, List.set_cons_succ, i64_w, i32_w]
              rfl
            refine done_ (done_of HT_.out (by kernel_rfl)) ?_
            go_wp2
            go_roundg k1
            case measure => have := HK1.out; omega
            case rel => exact ⟨wrap64 (j + 1), (by first | rfl | (simp; done) | (simp [*]; done)), H', ⟨by have := HK1.out; omega⟩, ⟨by (with_reducible repeat (first | refine blk_drewN ?_ _ | refine blk_drew ?_ | refine blk_alloc ?_ _)); exact BKgc.out⟩, ⟨by repeat (first | (with_reducible first | exact HB.out | apply below_alloc | apply pw_below_drewN | apply below_drew1) | exact HB.out)⟩⟩
        · rw [if_neg c5] at H
          exact absurd H (by simp)
      · rw [if_neg c4] at H
        have c4b0 : decide (j < (l1.length : Int)) = false := decide_eq_false c4
        clear c4
        obtain rfl := Option.some.inj H
        clear H
        go_wp2
        go_ret
        exact ⟨by first | rfl | (simp [*]; done), by repeat (first | (with_reducible first | exact HB.out | apply below_alloc | apply pw_below_drewN | apply below_drew1) | exact HB.out)⟩
theorem bound_Ok.calls (k : Nat) (a0_0 : Int) (a0_1 : Int) (a0_2 : Int) (a0_3 : Int) (a0_4 : Int) (A1 : Option Addr) (c1 : Nat) (l1 : List S38) (r : Bool) (w : World) (hr1 : Kd.C k38 w A1 l1.length l1) (hc1 : l1.length ≤ c1) (h : bound_Ok.f k a0_0 a0_1 a0_2 a0_3 a0_4 l1 = some r) :
    Calls Try.prog 17 #[.agg #[.int .i64 a0_0, .int .i64 a0_1, .int .i64 a0_2, .int .i64 a0_3, .int .i64 a0_4], .slice A1 l1.length c1] w fun e w' => e = .returned (.bool r) ∧ Below w.heap.size w w' :=
  bound_Ok.law k a0_0 a0_1 a0_2 a0_3 a0_4 A1 c1 l1 r w hr1 hc1 h


end Go.Proofs.Ytpcmoclohepdiab.PBoundSteps
