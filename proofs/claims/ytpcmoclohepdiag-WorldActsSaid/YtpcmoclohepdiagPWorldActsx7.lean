-- Written by a program of this session: a variant of the print that takes proofs by hand (wip/tools/mkprint.py)
import Derived.Test.YtpcmoclohepdiagPWorldActsx0
import Derived.Test.YtpcmoclohepdiagPWorldActsx4
import Derived.Test.YtpcmoclohepdiagPWorldActsx5
import Derived.Test.YtpcmoclohepdiagPWorldActsx6
namespace Go.Proofs.Ytpcmoclohepdiag.PWorldActs
open Go.RowKit Go.Proofs.YtpcmoclohepdiagW.PrintWords Go.Proofs.YtpcmoclohepdiagW.PrintLast
set_option linter.unusedVariables false
set_option linter.unusedSimpArgs false

/-! ### corrieref08_New: function 21 (by hand) -/
theorem d6_New (m : Nat) (hm : m ≤ 1000000) (W : World) : Calls Try.prog 50 #[.int .i64 (m : Int)] W fun e w' => ∃ (A : Option Addr) (C : Nat), e = .returned (.agg #[.slice A m C, .int .i64 0]) ∧ Kd.R (Kd.int .u64) 25 w' W.heap.size (fun _ => True) (.slice A m C) (List.replicate m 0) ∧ Below W.heap.size W w' :=
 (corrieref06_New.calls (m : Int) (List.replicate m 0) 0 W (by
  unfold corrieref06_New.f
  rw [if_neg (by omega), if_neg (by omega), if_pos (by omega), if_pos (by omega)]
  rfl)).mono (fun e w' hh => by
  obtain ⟨v, rfl, h1, h2⟩ := hh
  obtain ⟨A, C, rfl⟩ := Kd.R_slice h1
  rw [List.length_replicate] at h1 ⊢
  exact ⟨A, C, rfl, h1, h2⟩)
theorem nw_grown {W W1 : World} {b : Nat} {v : Value} {ws : List Int} {g t : Nat} {cells : Array Value} (h : Kd.R (Kd.int .u64) 25 W b (fun _ => True) v ws) (hb : W.heap[g]? = some (.cells cells t (0, 0))) (ht : 25 ≠ t) (hg : W.grownBy W1 (some g)) : Kd.R (Kd.int .u64) 25 W1 b (fun _ => True) v ws :=
 Kd.R_mono (Kd.R_grown (Kd.R_types h hb (fun q hq => by
  have : q = 25 := List.mem_singleton.mp hq
  rw [this]
  exact ht)) hg (fun k hk e => hk.2 (Option.some.inj e))) (fun _ _ => trivial)
def d8_Newh_lb (n m : Nat) : Array Bool := ((List.range n).map (fun i => m.testBit i)).toArray
def d8_Newh.T4 : Bool × List (List Nat × List Nat) := (true, [([], []), ([], []), ([1], [1]), ([2, 2], [2]), ([], []), ([0, 3, 4], [0, 3, 4]), ([5, 3, 0, 1, 2, 3, 4, 5], [5]), ([6, 0, 1, 2, 3, 4, 5, 6], [])])
def d8_Newh.B4 : List Nat := [0, 0, 2, 6, 0, 31, 63, 127]
theorem d8_Newh.tab4 : rtab .any (opsOf Try.f21 4) = d8_Newh.T4 := by kernel_rfl
theorem d8_Newh.bits4 : waitsOk d8_Newh.T4.2 d8_Newh.B4 = true := by kernel_rfl
set_option maxHeartbeats 8000000 in
set_option maxRecDepth 100000 in
theorem d8_New (c : S23) (hO : Ok c.f0 c.f1 c.f2 c.f3 c.f4) (m : Nat) (hm : (m : Int) = 1 + c.f1 + 2 * (c.f0 * c.f4) + c.f0 * c.f4 + c.f0) (W : World) :
  Calls Try.prog 21 #[.agg #[.int .i64 c.f0, .int .i64 c.f1, .int .i64 c.f2, .int .i64 c.f3, .int .i64 c.f4]] W fun e w' => ∃ (q : R8) (A : Option Addr) (C : Nat), e = .returned (.tuple #[.agg #[.int .i64 c.f0, .int .i64 c.f1, .int .i64 c.f2, .int .i64 c.f3, .int .i64 c.f4, .slice A m C, .int .i64 0, .int .i64 c.f0, .int .i64 c.f1, .int .i64 c.f2, .int .i64 c.f3, .int .i64 c.f4, .slice q.a5 c.f0.toNat q.c5, .slice q.a6 c.f0.toNat q.c6, .slice q.a7 c.f0.toNat q.c7, .slice q.a8 0 q.c8, .slice q.a9 0 q.c9], .int .i64 0]) ∧ Kd.R (Kd.int .u64) 25 w' W.heap.size (fun _ => True) (.slice A m C) (List.replicate m 0) ∧ Below W.heap.size W w' := by
 have hb_ := bnds hO
 have hm1 : m ≤ 1000000 := by omega
 have HLN := Aside0.mk (show ∀ W : World, Calls Try.prog 28 #[.agg #[.int .i64 c.f0, .int .i64 c.f1, .int .i64 c.f2, .int .i64 c.f3, .int .i64 c.f4]] W (fun e w' => e = .returned (.int .i64 (m : Int)) ∧ Below W.heap.size W w') from fun W => corrieref05_Len.calls 1 c.f0 c.f1 c.f2 c.f3 c.f4 _ W (by rw [rlen_eq 0, if_pos hO, ← hm]))
 clear hb_ hm
 have HB := Aside0.mk (Below.refl W.heap.size W)
 go_enter Try.func21, Try.ntmps21
 go_upto_region 4 with (first | ((with_reducible refine gate_dst (N := 1) rfl ?_); refine box_event ?hg25 (N := 1) ?hd25 (cs := #[.int .i64 c.f0, .int .i64 c.f1, .int .i64 c.f2, .int .i64 c.f3, .int .i64 c.f4]) (t := 23) ?hr25 ?_; (case hd25 => rfl); (case hg25 => rfl); (case hr25 => first | (go_simp; done) | (go_simp; rfl)); intro g1 hg w1_ hbox hbk; have HGB1 := Aside0.mk (show W.heap.size ≤ g1 from by rw [hg]; have := HB.out.size; omega); have n_HB := Aside0.mk (below_step HB.out hbk); clear HB; have HB := n_HB; clear n_HB; have B1 := Aside0.mk hbox; clear hbk hbox hg) | ((with_reducible refine gate_dst (N := 2) rfl ?_); refine box_event ?hg26 (N := 2) ?hd26 (cs := #[.int .i64 0, .int .i64 0, .int .i64 0, .int .i64 0, .int .i64 0, .slice none 0 0, .int .i64 0, .int .i64 0, .int .i64 0, .int .i64 0, .int .i64 0, .int .i64 0, .slice none 0 0, .slice none 0 0, .slice none 0 0, .slice none 0 0, .slice none 0 0]) (t := 60) ?hr26 ?_; (case hd26 => rfl); (case hg26 => rfl); (case hr26 => first | (go_simp; done) | (go_simp; rfl)); intro g2 hg w2_ hbox hbk; have HGB2 := Aside0.mk (show g1 ≠ g2 ∧ W.heap.size ≤ g2 from by rw [hg]; have := blk_lt B1.out; have := HB.out.size; omega); have n_HB := Aside0.mk (below_step HB.out hbk); have n_B1 := Aside0.mk (blk_below B1.out hbk); clear HB B1; have HB := n_HB; have B1 := n_B1; clear n_HB n_B1; have B2 := Aside0.mk hbox; clear hbk hbox hg) | ((with_reducible refine gate_dst (N := 7) rfl ?_); refine wq_loadA (ty := 23) (p := .tmp 1) (g := g1) (i := 0) (k := 5) (vs := ?vs27) ?hgd27 ?ho27 ?hp27 Try.underlying23 ?hd27 ?hi27 B1.out ?hv27 ?hk27 ?_; (case hd27 => rfl); (case hi27 => kernel_rfl); (case hgd27 => rfl); (case ho27 => rfl); (case hp27 => rfl); (case hv27 => simp only [List.drop_succ_cons, List.drop_zero, List.take_succ_cons, List.take_zero, List.take_nil, List.drop_nil]; with_reducible rfl); (case hk27 => rfl)) | (go_at_call 49; (with_reducible refine (d7_New c hO _ rfl _).mono ?_); rintro e u3_ ⟨q, rfl, hbk⟩; have n_HB := Aside0.mk (below_step HB.out hbk); have n_B1 := Aside0.mk (blk_below B1.out hbk); have n_B2 := Aside0.mk (blk_below B2.out hbk); clear HB B1 B2; have HB := n_HB; have B1 := n_B1; have B2 := n_B2; clear n_HB n_B1 n_B2; clear hbk) | ((with_reducible refine gate_dst (N := 4) rfl ?_); refine box_event ?hg29 (N := 4) ?hd29 (cs := #[.int .i64 0, .int .i64 0, .int .i64 0, .int .i64 0, .int .i64 0, .slice none 0 0, .slice none 0 0, .slice none 0 0, .slice none 0 0, .slice none 0 0]) (t := 58) ?hr29 ?_; (case hd29 => rfl); (case hg29 => rfl); (case hr29 => first | (go_simp; done) | (go_simp; rfl)); intro g3 hg w4_ hbox hbk; have HGB3 := Aside0.mk (show g1 ≠ g3 ∧ g2 ≠ g3 ∧ W.heap.size ≤ g3 from by rw [hg]; have := blk_lt B1.out; have := blk_lt B2.out; have := HB.out.size; omega); have n_HB := Aside0.mk (below_step HB.out hbk); have n_B1 := Aside0.mk (blk_below B1.out hbk); have n_B2 := Aside0.mk (blk_below B2.out hbk); clear HB B1 B2; have HB := n_HB; have B1 := n_B1; have B2 := n_B2; clear n_HB n_B1 n_B2; have B3 := Aside0.mk hbox; clear hbk hbox hg) | ((with_reducible refine gate_store (p := 4) rfl ?_); refine wq_store (ty := 58) (p := .tmp 4) (x := .tmp 9) (g := g3) (i := 0) (k := 10) (v := ?v30) (vs := ?vs30) (cs' := ?cs30) ?hgd30 ?hdst30 ?ho30 ?hp30 ?hx30 ?hvc30 ?hi30 ?hk30 ?h130 B3.out ?hsz30 ?hcs30 ?_; (case hi30 => kernel_rfl); (case hgd30 => rfl); (case hdst30 => rfl); (case ho30 => rfl); (case hp30 => rfl); (case hx30 => go_simp; with_reducible rfl); (case hvc30 => simp only [Value.cells]; with_reducible rfl); (case hk30 => rfl); (case h130 => rfl); (case hsz30 => exact Nat.le_of_ble_eq_true rfl); (case hcs30 => simp only [wqPut, List.setIfInBounds_toArray, List.set_cons_succ, List.set_cons_zero, Nat.reduceAdd]; with_reducible rfl); intro w5_ hb hgr; have n_HB := Aside0.mk (HB.out.grown hgr HB.out.size (fun k hk => by cases hk; exact HGB3.out.2.2)); have n_B1 := Aside0.mk (wq_blk B1.out hgr HGB3.out.1); have n_B2 := Aside0.mk (wq_blk B2.out hgr HGB3.out.2.1); have n_B3 := Aside0.mk hb; clear HB B1 B2 B3 hb hgr; have HB := n_HB; have B1 := n_B1; have B2 := n_B2; have B3 := n_B3; clear n_HB n_B1 n_B2 n_B3))
 obtain ⟨XB1, hXB1, hb_B1⟩ := wq_name B1.out
 clear B1
 have B1 := Aside0.mk hb_B1
 have HXB1 := Aside0.mk hXB1
 clear hXB1 hb_B1
 obtain ⟨XB3, hXB3, hb_B3⟩ := wq_name B3.out
 clear B3
 have B3 := Aside0.mk hb_B3
 have HXB3 := Aside0.mk hXB3
 clear hXB3 hb_B3
 have n_HB := Aside0.mk (below_drew1 HB.out)
 have n_B1 := Aside0.mk (blk_drew B1.out)
 have n_B2 := Aside0.mk (blk_drew B2.out)
 have n_B3 := Aside0.mk (blk_drew B3.out)
 clear HB B1 B2 B3
 have HB := n_HB
 have B1 := n_B1
 have B2 := n_B2
 have B3 := n_B3
 clear n_HB n_B1 n_B2 n_B3
 refine start_ (n := 8) (S := fun w' => w'.heap[g1]? = some (.cells XB1 23 (0, 0)) ∧ w'.heap[g3]? = some (.cells XB3 58 (0, 0))) (ds := [6]) #[false, false, false, false, false, false, false, false] (by kernel_rfl) rfl rfl ⟨B1.out, B3.out⟩ (fun hHeld => ?_); refine with_tabW d8_Newh.tab4 d8_Newh.bits4 (fun HT_ HW_ => ?_)
 generalize w5_.drew = v6_ at HB B1 B2 B3 hHeld ⊢
 refine take_ (i := 0) (N := some 15) (v := ?_) (a' := ?_) (d8_Newh_lb 8 1) rfl rfl (take_ofW HT_.out HW_.out (by kernel_rfl)) (fun _ _ _ h => h) (Or.inl ⟨by rfl, ?_⟩) hHeld ?_ ?_; rotate_left
 ·rintro w' ⟨s0, s1⟩; refine Eq.trans (wq_run_loadA (ty := 23) (p := .tmp 1) (g := g1) (i := 0) (k := 5) (vs := ?vs34) ?ho34 ?hp34 Try.underlying23 ?hd34 ?hi34 s0 ?hv34 ?hk34) ?fin34; (case hd34 => rfl); (case hi34 => kernel_rfl); (case ho34 => rfl); (case hp34 => rfl); (case hv34 => rewrite [HXB1.out]; simp only [List.drop_succ_cons, List.drop_zero, List.take_succ_cons, List.take_zero, List.take_nil, List.drop_nil]; with_reducible rfl); (case hk34 => rfl); (case fin34 => with_reducible rfl)
 rotate_left
 ·simp only [Act.put, List.setIfInBounds_toArray, List.set_cons_zero, List.set_cons_succ, i64_w, i32_w]; rfl
 refine take_ (i := 1) (N := some 16) (v := ?_) (a' := ?_) (d8_Newh_lb 8 3) rfl rfl (take_ofW HT_.out HW_.out (by kernel_rfl)) (fun _ _ _ h => h) (Or.inl ⟨by rfl, ?_⟩) hHeld ?_ ?_; rotate_left
 ·rintro w' ⟨s0, s1⟩; refine Eq.trans (wq_run_loadA (ty := 23) (p := .tmp 1) (g := g1) (i := 0) (k := 5) (vs := ?vs35) ?ho35 ?hp35 Try.underlying23 ?hd35 ?hi35 s0 ?hv35 ?hk35) ?fin35; (case hd35 => rfl); (case hi35 => kernel_rfl); (case ho35 => rfl); (case hp35 => rfl); (case hv35 => rewrite [HXB1.out]; simp only [List.drop_succ_cons, List.drop_zero, List.take_succ_cons, List.take_zero, List.take_nil, List.drop_nil]; with_reducible rfl); (case hk35 => rfl); (case fin35 => with_reducible rfl)
 rotate_left
 ·simp only [Act.put, List.setIfInBounds_toArray, List.set_cons_zero, List.set_cons_succ, i64_w, i32_w]; rfl
 refine take_ (i := 4) (N := some 19) (v := ?_) (a' := ?_) (d8_Newh_lb 8 19) rfl rfl (take_ofW HT_.out HW_.out (by kernel_rfl)) (fun _ _ _ h => h) (Or.inl ⟨by rfl, ?_⟩) hHeld ?_ ?_; rotate_left
 ·rintro w' ⟨s0, s1⟩; refine Eq.trans (wq_run_loadA (ty := 58) (p := .tmp 4) (g := g3) (i := 0) (k := 10) (vs := ?vs36) ?ho36 ?hp36 Try.underlying58 ?hd36 ?hi36 s1 ?hv36 ?hk36) ?fin36; (case hd36 => rfl); (case hi36 => kernel_rfl); (case ho36 => rfl); (case hp36 => rfl); (case hv36 => rewrite [HXB3.out]; simp only [List.drop_succ_cons, List.drop_zero, List.take_succ_cons, List.take_zero, List.take_nil, List.drop_nil]; with_reducible rfl); (case hk36 => rfl); (case fin36 => with_reducible rfl)
 rotate_left
 ·simp only [Act.put, List.setIfInBounds_toArray, List.set_cons_zero, List.set_cons_succ, i64_w, i32_w]; rfl
 refine one_ (i := 2) (N := some 17) (d8_Newh_lb 8 23) rfl rfl (one_of HT_.out (by kernel_rfl)) (by decide) (fun K hK => ?_)
 refine goes_ Try.func28 (by kernel_rfl) rfl ?args31 ?hw31 rfl rfl ?hargs31 ?_
 case hw31 => rfl
 case hargs31 => go_simp; with_reducible rfl
 with_reducible refine (HLN.out _).mono ?_
 rintro e u7_ ⟨rfl, hbk⟩
 refine ⟨_, rfl, ?_⟩
 have n_HB := Aside0.mk (below_step HB.out hbk)
 have n_B1 := Aside0.mk (blk_below B1.out hbk)
 have n_B2 := Aside0.mk (blk_below B2.out hbk)
 have n_B3 := Aside0.mk (blk_below B3.out hbk)
 clear HB B1 B2 B3
 have HB := n_HB
 have B1 := n_B1
 have B2 := n_B2
 have B3 := n_B3
 clear n_HB n_B1 n_B2 n_B3
 clear hbk
 refine hK.out _ _ ⟨B1.out, B3.out⟩ (fun hHeld => ?_)
 clear hK K
 refine norm_ (a' := ?_) ?_ ?_
 rotate_left
 ·show Act.put _ (some 17) _ = _
  simp only [Act.put, List.setIfInBounds_toArray, List.set_cons_zero, List.set_cons_succ, i64_w, i32_w]
  rfl
 refine one_ (i := 3) (N := some 18) (d8_Newh_lb 8 31) rfl rfl (one_of HT_.out (by kernel_rfl)) (by decide) (fun K hK => ?_)
 refine goes_ Try.func50 (by kernel_rfl) rfl ?args32 ?hw32 rfl rfl ?hargs32 ?_
 case hw32 => rfl
 case hargs32 => go_simp; with_reducible rfl
 with_reducible refine (d6_New m hm1 _).mono ?_
 rintro e u8_ ⟨A, C, rfl, hR, hbk⟩
 refine ⟨_, rfl, ?_⟩
 have n_HR := Aside0.mk (Kd.R_lower hR HB.out.size)
 have n_HB := Aside0.mk (below_step HB.out hbk)
 have n_B1 := Aside0.mk (blk_below B1.out hbk)
 have n_B2 := Aside0.mk (blk_below B2.out hbk)
 have n_B3 := Aside0.mk (blk_below B3.out hbk)
 clear HB B1 B2 B3
 have HB := n_HB
 have B1 := n_B1
 have B2 := n_B2
 have B3 := n_B3
 clear n_HB n_B1 n_B2 n_B3
 have HR := n_HR
 clear n_HR hR hbk
 refine hK.out _ _ ⟨B1.out, B3.out⟩ (fun hHeld => ?_)
 clear hK K
 refine norm_ (a' := ?_) ?_ ?_
 rotate_left
 ·show Act.put _ (some 18) _ = _
  simp only [Act.put, List.setIfInBounds_toArray, List.set_cons_zero, List.set_cons_succ, i64_w, i32_w]
  rfl
 refine pure_ (i := 5) (N := some 20) (v := ?_) (a' := ?_) (d8_Newh_lb 8 63) rfl rfl (any_of HT_.out (by kernel_rfl)) (fun _ _ _ h => h) (Or.inl ⟨by rfl, ?_⟩) ?_ ?_; rotate_left
 ·intro w'; go_simp; with_reducible rfl
 rotate_left
 ·simp only [Act.put, List.setIfInBounds_toArray, List.set_cons_zero, List.set_cons_succ, i64_w, i32_w]; rfl
 refine last_ (i := 6) (N := none) (d8_Newh_lb 8 127) rfl rfl (one_of HT_.out (by kernel_rfl)) (by decide) (fun K hK => ?_)
 refine wq_skip (ty := 60) (p := .tmp 2) (x := .tmp 20) (g := g2) (i := 0) (k := 17) (v := ?v33) (vs := ?vs33) (cs' := ?cs33) ?hw33 ?hN33 ?ho33 ?hp33 ?hx33 ?hvc33 ?hi33 ?hk33 ?h133 B2.out ?hsz33 ?hcs33 ?_
 case hi33 => kernel_rfl
 case hw33 => rfl
 case hN33 => rfl
 case ho33 => rfl
 case hp33 => rfl
 case hx33 => go_simp; with_reducible rfl
 case hvc33 => simp only [Value.cells]; with_reducible rfl
 case hk33 => rfl
 case h133 => rfl
 case hsz33 => exact Nat.le_of_ble_eq_true rfl
 case hcs33 => simp only [wqPut, List.setIfInBounds_toArray, List.set_cons_succ, List.set_cons_zero, Nat.reduceAdd]; with_reducible rfl
 intro w9_ hb hgr
 have n_HR := Aside0.mk (nw_grown HR.out B2.out (by decide) hgr)
 have n_HB := Aside0.mk (HB.out.grown hgr HB.out.size (fun k hk => by cases hk; exact HGB2.out.2))
 have n_B1 := Aside0.mk (wq_blk B1.out hgr HGB2.out.1)
 have n_B2 := Aside0.mk hb
 have n_B3 := Aside0.mk (wq_blk B3.out hgr (Ne.symm HGB3.out.2.1))
 clear HR HB B1 B2 B3 hb hgr
 have HR := n_HR
 have HB := n_HB
 have B1 := n_B1
 have B2 := n_B2
 have B3 := n_B3
 clear n_HR n_HB n_B1 n_B2 n_B3
 refine hK.out _ _ ?_
 clear hK K
 refine pure_ (i := 7) (N := some 3) (v := ?_) (a' := ?_) (d8_Newh_lb 8 255) rfl rfl (any_of HT_.out (by kernel_rfl)) (fun _ _ _ h => h) (Or.inl ⟨by rfl, ?_⟩) ?_ ?_; rotate_left
 ·intro w'; go_simp; with_reducible rfl
 rotate_left
 ·simp only [Act.put, List.setIfInBounds_toArray, List.set_cons_zero, List.set_cons_succ, i64_w, i32_w]; rfl
 refine done_ (done_of HT_.out (by kernel_rfl)) ?_
 have hX := HXB1.out
 subst hX
 clear HXB1
 have hX := HXB3.out
 subst hX
 clear HXB3
 go_wp2
 refine bodyPost_ret (nw_ct rfl _ _ _ _ _ _ _ rfl B2.out Try.underlying60 rfl (by kernel_rfl)) rfl ?_
 exact ⟨q, A, C, rfl, HR.out, HB.out⟩



/-! ### corrieref06_Load: function 100 -/
def corrieref06_Load.f (l0_0 : List Int) (a0_1 : Int) (a1 : Int) : Option (List Int × Int × Int) := if a1 < 0 then (some (l0_0, a0_1, 0)) else (if a1 ≥ (l0_0.length : Int) then (some (l0_0, a0_1, 0)) else (if 0 ≤ a1 then (if a1 < (l0_0.length : Int) then (some (l0_0, wrap64 (a0_1 + 1), rd l0_0 a1)) else (none)) else (none)))
def corrieref06_Load.T4 : Bool × List (List Nat × List Nat) := (true, [([], []), ([], []), ([1], [1]), ([], []), ([2, 3], [2, 3]), ([4], [4]), ([0, 0], [0]), ([5, 6, 0, 1, 2, 3, 4, 5, 6], [5])])
def corrieref06_Load.B4 : List Nat := [0, 0, 2, 0, 14, 30, 1, 127]
theorem corrieref06_Load.tab4 : rtab .any (opsOf Try.f100 4) = corrieref06_Load.T4 := by kernel_rfl
theorem corrieref06_Load.bits4 : waitsOk corrieref06_Load.T4.2 corrieref06_Load.B4 = true := by kernel_rfl
set_option maxHeartbeats 8000000 in
set_option maxRecDepth 100000 in
theorem corrieref06_Load.calls (P0_0_ : Nat → Prop) (u9000_ : Value) (l0_0 : List Int) (a0_1 : Int) (a1 : Int) (r1 : List Int) (r2 : Int) (r3 : Int) (w0 w : World) (hB : Below w0.heap.size w0 w) (ho0_0 : Kd.R (Kd.int .u64) 25 w w0.heap.size P0_0_ u9000_ l0_0) (h : corrieref06_Load.f l0_0 a0_1 a1 = some (r1, r2, r3)) :
  Calls Try.prog 100 #[.agg #[u9000_, .int .i64 a0_1], .int .i64 a1] w fun e w' => ∃ v0_ : Value, e = .returned (.tuple #[.agg #[v0_, .int .i64 r2], .int .u64 r3]) ∧ Kd.R (Kd.int .u64) 25 w' w0.heap.size (fun k_ => (P0_0_ k_ ∨ w.heap.size ≤ k_)) v0_ r1 ∧ Below w0.heap.size w0 w' ∧ Kept w w' (fun k_ => P0_0_ k_) := by
 have hu53 := Try.underlying53
 have HO0_0 := Aside0.mk (show Kd.R (Kd.int .u64) 25 w w0.heap.size (fun k_ => (P0_0_ k_ ∨ w.heap.size ≤ k_)) u9000_ l0_0 from Kd.R_mono ho0_0 (fun k_ hk => (.inl hk)))
 have HK := Aside0.mk (Kept.refl w (fun k_ => P0_0_ k_))
 have HW0 := Aside0.mk hB.size
 have HB := Aside0.mk hB
 clear hB
 have H : (if a1 < 0 then (some (l0_0, a0_1, 0)) else (if a1 ≥ (l0_0.length : Int) then (some (l0_0, a0_1, 0)) else (if 0 ≤ a1 then (if a1 < (l0_0.length : Int) then (some (l0_0, wrap64 (a0_1 + 1), rd l0_0 a1)) else (none)) else (none)))) = some (r1, r2, r3) := h
 clear h
 by_cases c3 : a1 < 0
 ·rw [if_pos c3] at H
  have c3b0 : decide (a1 < 0) = true := decide_eq_true c3
  clear c3
  simp only [Option.some.injEq, Prod.mk.injEq] at H
  obtain ⟨rfl, rfl, rfl⟩ := H
  obtain ⟨Ao4, co4, eo4⟩ := Kd.R_slice HO0_0.out
  subst eo4
  go_enter Try.func100, Try.ntmps100
  go_wp2_with (first | ((with_reducible refine gate_dst (N := 2) rfl ?_); (try (refine gate_guard (by rfl) ?_; dsimp only)); refine box_event ?hg (N := 2) ?hd (cs := #[.slice Ao4 l0_0.length co4, .int .i64 a0_1]) (t := 53) ?hr ?_; (case hd => rfl); (case hg => rfl); (case hr => first | (go_simp; done) | (go_simp; rfl)); intro gb138 hg w5 hbox hb; have n0_ := Aside0.mk (Kd.R_below (by (with_reducible repeat (first | apply Kd.R_alloc | apply Kd.R_drewN | apply Kd.R_drew)); exact HO0_0.out) hb); have n1_ := Aside0.mk (Kept.below (S := (fun k_ => P0_0_ k_)) (by repeat (first | (with_reducible first | exact HK.out | apply Kept.alloc | apply Kept.drewN | apply Kept.drew) | exact HK.out)) hb); have n2_ := Aside0.mk (below_step (by repeat (first | (with_reducible first | exact HB.out | apply below_alloc | apply pw_below_drewN | apply below_drew1) | exact HB.out)) hb); have n3_ := Aside0.mk (hbox); have n4_ := Aside0.mk ((by rw [hg]; exact (by first | exact HK.out.1 | exact (show Kept w _ (fun k_ => P0_0_ k_) from by repeat (first | (with_reducible first | exact HK.out | apply Kept.alloc | apply Kept.drewN | apply Kept.drew) | exact HK.out)).1) : w.heap.size ≤ gb138)); have n5_ := Aside0.mk ((by rw [hg]; exact (below_size (by repeat (first | (with_reducible first | exact HB.out | apply below_alloc | apply pw_below_drewN | apply below_drew1) | exact HB.out))) : w0.heap.size ≤ gb138)); clear HO0_0; clear HK; clear HB; have HO0_0 := n0_; have HK := n1_; have HB := n2_; have BK138 := n3_; have GW138 := n4_; have GE138 := n5_; clear n0_ n1_ n2_ n3_ n4_ n5_; clear hb hbox hg) | ((with_reducible refine gate_dst (N := 4) rfl ?_); (try (refine gate_guard (by rfl) ?_; dsimp only)); refine box_event ?hg (N := 4) ?hd (cs := #[.slice none 0 0, .int .i64 0]) (t := 53) ?hr ?_; (case hd => rfl); (case hg => rfl); (case hr => first | (go_simp; done) | (go_simp; rfl)); intro gb139 hg w6 hbox hb; have n0_ := Aside0.mk (Kd.R_below (by (with_reducible repeat (first | apply Kd.R_alloc | apply Kd.R_drewN | apply Kd.R_drew)); exact HO0_0.out) hb); have n1_ := Aside0.mk (blk_below (g := gb138) (o := .cells #[.slice Ao4 l0_0.length co4, .int .i64 a0_1] 53 (0, 0)) (by (with_reducible repeat (first | refine blk_drewN ?_ _ | refine blk_drew ?_ | refine blk_alloc ?_ _)); exact BK138.out) hb); have n2_ := Aside0.mk (Kept.below (S := (fun k_ => P0_0_ k_)) (by repeat (first | (with_reducible first | exact HK.out | apply Kept.alloc | apply Kept.drewN | apply Kept.drew | refine Kept.setCell ?_ (.inr GW138.out) _) | exact HK.out)) hb); have n3_ := Aside0.mk (below_step (by repeat (first | (with_reducible first | exact HB.out | apply below_alloc | apply pw_below_drewN | apply below_drew1 | refine below_set ?_ GE138.out) | exact HB.out)) hb); have n4_ := Aside0.mk (hbox); have n5_ := Aside0.mk ((by rw [hg]; exact (by first | exact HK.out.1 | exact (show Kept w _ (fun k_ => P0_0_ k_) from by repeat (first | (with_reducible first | exact HK.out | apply Kept.alloc | apply Kept.drewN | apply Kept.drew | refine Kept.setCell ?_ (.inr GW138.out) _) | exact HK.out)).1) : w.heap.size ≤ gb139)); have n6_ := Aside0.mk ((by rw [hg]; exact (below_size (by repeat (first | (with_reducible first | exact HB.out | apply below_alloc | apply pw_below_drewN | apply below_drew1 | refine below_set ?_ GE138.out) | exact HB.out))) : w0.heap.size ≤ gb139)); have n7_ := Aside0.mk ((by rw [hg]; exact Nat.ne_of_lt (blk_lt (g := gb138) (o := .cells #[.slice Ao4 l0_0.length co4, .int .i64 a0_1] 53 (0, 0)) (by (with_reducible repeat (first | refine blk_drewN ?_ _ | refine blk_drew ?_ | refine blk_alloc ?_ _)); exact BK138.out)) : gb138 ≠ gb139)); have n8_ := Aside0.mk ((by rw [hg]; exact Nat.ne_of_gt (blk_lt (g := gb138) (o := .cells #[.slice Ao4 l0_0.length co4, .int .i64 a0_1] 53 (0, 0)) (by (with_reducible repeat (first | refine blk_drewN ?_ _ | refine blk_drew ?_ | refine blk_alloc ?_ _)); exact BK138.out)) : gb139 ≠ gb138)); clear HO0_0; clear BK138; clear HK; clear HB; have HO0_0 := n0_; have BK138 := n1_; have HK := n2_; have HB := n3_; have BK139 := n4_; have GW139 := n5_; have GE139 := n6_; have NB138_139 := n7_; have NB139_138 := n8_; clear n0_ n1_ n2_ n3_ n4_ n5_ n6_ n7_ n8_; clear hb hbox hg; have hnb7 := NB138_139.out; have hnc7 := NB139_138.out; have hcz8_0 : w6.cell? ⟨gb138, 0, none⟩ = some (.slice Ao4 l0_0.length co4) := (blk_cell BK138.out 0).trans rfl; have hcz8_1 : w6.cell? ⟨gb138, 1, none⟩ = some (.int .i64 a0_1) := (blk_cell BK138.out 1).trans rfl; have hfz8_0 := blk_frozen BK138.out 0; have hfz8_1 := blk_frozen BK138.out 1; have hcz9_0 : w6.cell? ⟨gb139, 0, none⟩ = some (.slice none 0 0) := (blk_cell BK139.out 0).trans rfl; have hcz9_1 : w6.cell? ⟨gb139, 1, none⟩ = some (.int .i64 0) := (blk_cell BK139.out 1).trans rfl; have hfz9_0 := blk_frozen BK139.out 0; have hfz9_1 := blk_frozen BK139.out 1))
  refine bodyPost_ret (results_ct rfl _ _ gb139 53 #[.slice Ao4 l0_0.length co4, .int .i64 a0_1] (0, 0) _ rfl (by (with_reducible repeat (first | refine blk_drewN ?_ _ | refine blk_drew ?_ | refine blk_alloc ?_ _)); refine blk_put (cs := #[.slice Ao4 l0_0.length co4, .int .i64 0]) ?_ 1 _ rfl; (with_reducible repeat (first | refine blk_drewN ?_ _ | refine blk_drew ?_ | refine blk_alloc ?_ _)); refine blk_put (cs := #[.slice none 0 0, .int .i64 0]) ?_ 0 _ rfl; (with_reducible repeat (first | refine blk_drewN ?_ _ | refine blk_drew ?_ | refine blk_alloc ?_ _)); exact BK139.out) Try.underlying53 rfl (by kernel_rfl)) rfl ?_
  exact ⟨_, by first | rfl | (simp [errW_none, errW_some] <;> rfl) | (simp [*, errW_none, errW_some] <;> rfl), by (with_reducible repeat (first | apply Kd.R_alloc | apply Kd.R_drewN | apply Kd.R_drew)); exact Kd.R_mono (Kd.R_far (p := ⟨gb139, 1, none⟩) (Kd.R_far (p := ⟨gb139, 0, none⟩) (Kd.R_types HO0_0.out BK139.out (by decide)) (fun _ hk => hk.2) (.slice Ao4 l0_0.length co4)) (fun _ hk => hk.2) (.int .i64 a0_1)) (fun _ hk => hk.1), by repeat (first | (with_reducible first | exact HB.out | apply below_alloc | apply pw_below_drewN | apply below_drew1 | refine below_set ?_ GE138.out | refine below_set ?_ GE139.out) | exact HB.out), by repeat (first | (with_reducible first | exact HK.out | apply Kept.alloc | apply Kept.drewN | apply Kept.drew | refine Kept.setCell ?_ (.inr GW138.out) _ | refine Kept.setCell ?_ (.inr GW139.out) _) | exact HK.out)⟩
 ·rw [if_neg c3] at H
  have c3b0 : decide (a1 < 0) = false := decide_eq_false c3
  clear c3
  by_cases c10 : a1 ≥ (l0_0.length : Int)
  ·rw [if_pos c10] at H
   have c10b0 : decide ((l0_0.length : Int) ≤ a1) = true := decide_eq_true c10
   clear c10
   simp only [Option.some.injEq, Prod.mk.injEq] at H
   obtain ⟨rfl, rfl, rfl⟩ := H
   obtain ⟨Ao11, co11, eo11⟩ := Kd.R_slice HO0_0.out
   subst eo11
   go_enter Try.func100, Try.ntmps100
   go_wp2_with (first | ((with_reducible refine gate_dst (N := 2) rfl ?_); (try (refine gate_guard (by rfl) ?_; dsimp only)); refine box_event ?hg (N := 2) ?hd (cs := #[.slice Ao11 l0_0.length co11, .int .i64 a0_1]) (t := 53) ?hr ?_; (case hd => rfl); (case hg => rfl); (case hr => first | (go_simp; done) | (go_simp; rfl)); intro gb138 hg w12 hbox hb; have n0_ := Aside0.mk (Kd.R_below (by (with_reducible repeat (first | apply Kd.R_alloc | apply Kd.R_drewN | apply Kd.R_drew)); exact HO0_0.out) hb); have n1_ := Aside0.mk (Kept.below (S := (fun k_ => P0_0_ k_)) (by repeat (first | (with_reducible first | exact HK.out | apply Kept.alloc | apply Kept.drewN | apply Kept.drew) | exact HK.out)) hb); have n2_ := Aside0.mk (below_step (by repeat (first | (with_reducible first | exact HB.out | apply below_alloc | apply pw_below_drewN | apply below_drew1) | exact HB.out)) hb); have n3_ := Aside0.mk (hbox); have n4_ := Aside0.mk ((by rw [hg]; exact (by first | exact HK.out.1 | exact (show Kept w _ (fun k_ => P0_0_ k_) from by repeat (first | (with_reducible first | exact HK.out | apply Kept.alloc | apply Kept.drewN | apply Kept.drew) | exact HK.out)).1) : w.heap.size ≤ gb138)); have n5_ := Aside0.mk ((by rw [hg]; exact (below_size (by repeat (first | (with_reducible first | exact HB.out | apply below_alloc | apply pw_below_drewN | apply below_drew1) | exact HB.out))) : w0.heap.size ≤ gb138)); clear HO0_0; clear HK; clear HB; have HO0_0 := n0_; have HK := n1_; have HB := n2_; have BK138 := n3_; have GW138 := n4_; have GE138 := n5_; clear n0_ n1_ n2_ n3_ n4_ n5_; clear hb hbox hg) | ((with_reducible refine gate_dst (N := 4) rfl ?_); (try (refine gate_guard (by rfl) ?_; dsimp only)); refine box_event ?hg (N := 4) ?hd (cs := #[.slice none 0 0, .int .i64 0]) (t := 53) ?hr ?_; (case hd => rfl); (case hg => rfl); (case hr => first | (go_simp; done) | (go_simp; rfl)); intro gb139 hg w13 hbox hb; have n0_ := Aside0.mk (Kd.R_below (by (with_reducible repeat (first | apply Kd.R_alloc | apply Kd.R_drewN | apply Kd.R_drew)); exact HO0_0.out) hb); have n1_ := Aside0.mk (blk_below (g := gb138) (o := .cells #[.slice Ao11 l0_0.length co11, .int .i64 a0_1] 53 (0, 0)) (by (with_reducible repeat (first | refine blk_drewN ?_ _ | refine blk_drew ?_ | refine blk_alloc ?_ _)); exact BK138.out) hb); have n2_ := Aside0.mk (Kept.below (S := (fun k_ => P0_0_ k_)) (by repeat (first | (with_reducible first | exact HK.out | apply Kept.alloc | apply Kept.drewN | apply Kept.drew | refine Kept.setCell ?_ (.inr GW138.out) _) | exact HK.out)) hb); have n3_ := Aside0.mk (below_step (by repeat (first | (with_reducible first | exact HB.out | apply below_alloc | apply pw_below_drewN | apply below_drew1 | refine below_set ?_ GE138.out) | exact HB.out)) hb); have n4_ := Aside0.mk (hbox); have n5_ := Aside0.mk ((by rw [hg]; exact (by first | exact HK.out.1 | exact (show Kept w _ (fun k_ => P0_0_ k_) from by repeat (first | (with_reducible first | exact HK.out | apply Kept.alloc | apply Kept.drewN | apply Kept.drew | refine Kept.setCell ?_ (.inr GW138.out) _) | exact HK.out)).1) : w.heap.size ≤ gb139)); have n6_ := Aside0.mk ((by rw [hg]; exact (below_size (by repeat (first | (with_reducible first | exact HB.out | apply below_alloc | apply pw_below_drewN | apply below_drew1 | refine below_set ?_ GE138.out) | exact HB.out))) : w0.heap.size ≤ gb139)); have n7_ := Aside0.mk ((by rw [hg]; exact Nat.ne_of_lt (blk_lt (g := gb138) (o := .cells #[.slice Ao11 l0_0.length co11, .int .i64 a0_1] 53 (0, 0)) (by (with_reducible repeat (first | refine blk_drewN ?_ _ | refine blk_drew ?_ | refine blk_alloc ?_ _)); exact BK138.out)) : gb138 ≠ gb139)); have n8_ := Aside0.mk ((by rw [hg]; exact Nat.ne_of_gt (blk_lt (g := gb138) (o := .cells #[.slice Ao11 l0_0.length co11, .int .i64 a0_1] 53 (0, 0)) (by (with_reducible repeat (first | refine blk_drewN ?_ _ | refine blk_drew ?_ | refine blk_alloc ?_ _)); exact BK138.out)) : gb139 ≠ gb138)); clear HO0_0; clear BK138; clear HK; clear HB; have HO0_0 := n0_; have BK138 := n1_; have HK := n2_; have HB := n3_; have BK139 := n4_; have GW139 := n5_; have GE139 := n6_; have NB138_139 := n7_; have NB139_138 := n8_; clear n0_ n1_ n2_ n3_ n4_ n5_ n6_ n7_ n8_; clear hb hbox hg; have hnb14 := NB138_139.out; have hnc14 := NB139_138.out; have hcz15_0 : w13.cell? ⟨gb138, 0, none⟩ = some (.slice Ao11 l0_0.length co11) := (blk_cell BK138.out 0).trans rfl; have hcz15_1 : w13.cell? ⟨gb138, 1, none⟩ = some (.int .i64 a0_1) := (blk_cell BK138.out 1).trans rfl; have hfz15_0 := blk_frozen BK138.out 0; have hfz15_1 := blk_frozen BK138.out 1; have hcz16_0 : w13.cell? ⟨gb139, 0, none⟩ = some (.slice none 0 0) := (blk_cell BK139.out 0).trans rfl; have hcz16_1 : w13.cell? ⟨gb139, 1, none⟩ = some (.int .i64 0) := (blk_cell BK139.out 1).trans rfl; have hfz16_0 := blk_frozen BK139.out 0; have hfz16_1 := blk_frozen BK139.out 1))
   refine bodyPost_ret (results_ct rfl _ _ gb139 53 #[.slice Ao11 l0_0.length co11, .int .i64 a0_1] (0, 0) _ rfl (by (with_reducible repeat (first | refine blk_drewN ?_ _ | refine blk_drew ?_ | refine blk_alloc ?_ _)); refine blk_put (cs := #[.slice Ao11 l0_0.length co11, .int .i64 0]) ?_ 1 _ rfl; (with_reducible repeat (first | refine blk_drewN ?_ _ | refine blk_drew ?_ | refine blk_alloc ?_ _)); refine blk_put (cs := #[.slice none 0 0, .int .i64 0]) ?_ 0 _ rfl; (with_reducible repeat (first | refine blk_drewN ?_ _ | refine blk_drew ?_ | refine blk_alloc ?_ _)); exact BK139.out) Try.underlying53 rfl (by kernel_rfl)) rfl ?_
   exact ⟨_, by first | rfl | (simp [errW_none, errW_some] <;> rfl) | (simp [*, errW_none, errW_some] <;> rfl), by (with_reducible repeat (first | apply Kd.R_alloc | apply Kd.R_drewN | apply Kd.R_drew)); exact Kd.R_mono (Kd.R_far (p := ⟨gb139, 1, none⟩) (Kd.R_far (p := ⟨gb139, 0, none⟩) (Kd.R_types HO0_0.out BK139.out (by decide)) (fun _ hk => hk.2) (.slice Ao11 l0_0.length co11)) (fun _ hk => hk.2) (.int .i64 a0_1)) (fun _ hk => hk.1), by repeat (first | (with_reducible first | exact HB.out | apply below_alloc | apply pw_below_drewN | apply below_drew1 | refine below_set ?_ GE138.out | refine below_set ?_ GE139.out) | exact HB.out), by repeat (first | (with_reducible first | exact HK.out | apply Kept.alloc | apply Kept.drewN | apply Kept.drew | refine Kept.setCell ?_ (.inr GW138.out) _ | refine Kept.setCell ?_ (.inr GW139.out) _) | exact HK.out)⟩
  ·rw [if_neg c10] at H
   have c10b0 : decide ((l0_0.length : Int) ≤ a1) = false := decide_eq_false c10
   clear c10
   by_cases c17 : 0 ≤ a1
   ·rw [if_pos c17] at H
    have c17b0 : decide (0 ≤ a1) = true := decide_eq_true c17
    clear c17
    by_cases c18 : a1 < (l0_0.length : Int)
    ·rw [if_pos c18] at H
     have c18b0 : decide (a1 < (l0_0.length : Int)) = true := decide_eq_true c18
     clear c18
     simp only [Option.some.injEq, Prod.mk.injEq] at H
     obtain ⟨rfl, rfl, rfl⟩ := H
     obtain ⟨Ao19, co19, eo19⟩ := Kd.R_slice HO0_0.out
     subst eo19
     go_enter Try.func100, Try.ntmps100
     try go_wp2_with (first | ((with_reducible refine gate_dst (N := 2) rfl ?_); (try (refine gate_guard (by rfl) ?_; dsimp only)); refine box_event ?hg (N := 2) ?hd (cs := #[.slice Ao19 l0_0.length co19, .int .i64 a0_1]) (t := 53) ?hr ?_; (case hd => rfl); (case hg => rfl); (case hr => first | (go_simp; done) | (go_simp; rfl)); intro gb138 hg w20 hbox hb; have n0_ := Aside0.mk (Kd.R_below (by (with_reducible repeat (first | apply Kd.R_alloc | apply Kd.R_drewN | apply Kd.R_drew)); exact HO0_0.out) hb); have n1_ := Aside0.mk (Kept.below (S := (fun k_ => P0_0_ k_)) (by repeat (first | (with_reducible first | exact HK.out | apply Kept.alloc | apply Kept.drewN | apply Kept.drew) | exact HK.out)) hb); have n2_ := Aside0.mk (below_step (by repeat (first | (with_reducible first | exact HB.out | apply below_alloc | apply pw_below_drewN | apply below_drew1) | exact HB.out)) hb); have n3_ := Aside0.mk (hbox); have n4_ := Aside0.mk ((by rw [hg]; exact (by first | exact HK.out.1 | exact (show Kept w _ (fun k_ => P0_0_ k_) from by repeat (first | (with_reducible first | exact HK.out | apply Kept.alloc | apply Kept.drewN | apply Kept.drew) | exact HK.out)).1) : w.heap.size ≤ gb138)); have n5_ := Aside0.mk ((by rw [hg]; exact (below_size (by repeat (first | (with_reducible first | exact HB.out | apply below_alloc | apply pw_below_drewN | apply below_drew1) | exact HB.out))) : w0.heap.size ≤ gb138)); clear HO0_0; clear HK; clear HB; have HO0_0 := n0_; have HK := n1_; have HB := n2_; have BK138 := n3_; have GW138 := n4_; have GE138 := n5_; clear n0_ n1_ n2_ n3_ n4_ n5_; clear hb hbox hg) | ((with_reducible refine gate_dst (N := 4) rfl ?_); (try (refine gate_guard (by rfl) ?_; dsimp only)); refine box_event ?hg (N := 4) ?hd (cs := #[.slice none 0 0, .int .i64 0]) (t := 53) ?hr ?_; (case hd => rfl); (case hg => rfl); (case hr => first | (go_simp; done) | (go_simp; rfl)); intro gb139 hg w21 hbox hb; have n0_ := Aside0.mk (Kd.R_below (by (with_reducible repeat (first | apply Kd.R_alloc | apply Kd.R_drewN | apply Kd.R_drew)); exact HO0_0.out) hb); have n1_ := Aside0.mk (blk_below (g := gb138) (o := .cells #[.slice Ao19 l0_0.length co19, .int .i64 a0_1] 53 (0, 0)) (by (with_reducible repeat (first | refine blk_drewN ?_ _ | refine blk_drew ?_ | refine blk_alloc ?_ _)); exact BK138.out) hb); have n2_ := Aside0.mk (Kept.below (S := (fun k_ => P0_0_ k_)) (by repeat (first | (with_reducible first | exact HK.out | apply Kept.alloc | apply Kept.drewN | apply Kept.drew | refine Kept.setCell ?_ (.inr GW138.out) _) | exact HK.out)) hb); have n3_ := Aside0.mk (below_step (by repeat (first | (with_reducible first | exact HB.out | apply below_alloc | apply pw_below_drewN | apply below_drew1 | refine below_set ?_ GE138.out) | exact HB.out)) hb); have n4_ := Aside0.mk (hbox); have n5_ := Aside0.mk ((by rw [hg]; exact (by first | exact HK.out.1 | exact (show Kept w _ (fun k_ => P0_0_ k_) from by repeat (first | (with_reducible first | exact HK.out | apply Kept.alloc | apply Kept.drewN | apply Kept.drew | refine Kept.setCell ?_ (.inr GW138.out) _) | exact HK.out)).1) : w.heap.size ≤ gb139)); have n6_ := Aside0.mk ((by rw [hg]; exact (below_size (by repeat (first | (with_reducible first | exact HB.out | apply below_alloc | apply pw_below_drewN | apply below_drew1 | refine below_set ?_ GE138.out) | exact HB.out))) : w0.heap.size ≤ gb139)); have n7_ := Aside0.mk ((by rw [hg]; exact Nat.ne_of_lt (blk_lt (g := gb138) (o := .cells #[.slice Ao19 l0_0.length co19, .int .i64 a0_1] 53 (0, 0)) (by (with_reducible repeat (first | refine blk_drewN ?_ _ | refine blk_drew ?_ | refine blk_alloc ?_ _)); exact BK138.out)) : gb138 ≠ gb139)); have n8_ := Aside0.mk ((by rw [hg]; exact Nat.ne_of_gt (blk_lt (g := gb138) (o := .cells #[.slice Ao19 l0_0.length co19, .int .i64 a0_1] 53 (0, 0)) (by (with_reducible repeat (first | refine blk_drewN ?_ _ | refine blk_drew ?_ | refine blk_alloc ?_ _)); exact BK138.out)) : gb139 ≠ gb138)); clear HO0_0; clear BK138; clear HK; clear HB; have HO0_0 := n0_; have BK138 := n1_; have HK := n2_; have HB := n3_; have BK139 := n4_; have GW139 := n5_; have GE139 := n6_; have NB138_139 := n7_; have NB139_138 := n8_; clear n0_ n1_ n2_ n3_ n4_ n5_ n6_ n7_ n8_; clear hb hbox hg; have hnb22 := NB138_139.out; have hnc22 := NB139_138.out; have hcz23_0 : w21.cell? ⟨gb138, 0, none⟩ = some (.slice Ao19 l0_0.length co19) := (blk_cell BK138.out 0).trans rfl; have hcz23_1 : w21.cell? ⟨gb138, 1, none⟩ = some (.int .i64 a0_1) := (blk_cell BK138.out 1).trans rfl; have hfz23_0 := blk_frozen BK138.out 0; have hfz23_1 := blk_frozen BK138.out 1))
     have n0_ : Aside0 (Kd.R (Kd.int .u64) 25 (w21.setCell ⟨gb138, 1, none⟩ (.int .i64 (wrap64 (a0_1 + 1)))) w0.heap.size (fun k_ => (P0_0_ k_ ∨ w.heap.size ≤ k_)) (.slice Ao19 l0_0.length co19) l0_0) := ⟨by (with_reducible repeat (first | apply Kd.R_alloc | apply Kd.R_drewN | apply Kd.R_drew)); exact Kd.R_mono (Kd.R_far (p := ⟨gb138, 1, none⟩) (Kd.R_types HO0_0.out BK138.out (by decide)) (fun _ hk => hk.2) (.int .i64 (wrap64 (a0_1 + 1)))) (fun _ hk => hk.1)⟩
     have n1_ : Aside0 ((w21.setCell ⟨gb138, 1, none⟩ (.int .i64 (wrap64 (a0_1 + 1)))).heap[gb138]? = some (.cells #[.slice Ao19 l0_0.length co19, .int .i64 (wrap64 (a0_1 + 1))] 53 (0, 0))) := ⟨by (with_reducible repeat (first | refine blk_drewN ?_ _ | refine blk_drew ?_ | refine blk_alloc ?_ _)); refine blk_put (cs := #[.slice Ao19 l0_0.length co19, .int .i64 a0_1]) ?_ 1 _ rfl; (with_reducible repeat (first | refine blk_drewN ?_ _ | refine blk_drew ?_ | refine blk_alloc ?_ _)); exact BK138.out⟩
     have n2_ : Aside0 ((w21.setCell ⟨gb138, 1, none⟩ (.int .i64 (wrap64 (a0_1 + 1)))).heap[gb139]? = some (.cells #[.slice none 0 0, .int .i64 0] 53 (0, 0))) := ⟨by (with_reducible repeat (first | refine blk_drewN ?_ _ | refine blk_drew ?_ | refine blk_alloc ?_ _)); refine blk_far ?_ NB139_138.out _; (with_reducible repeat (first | refine blk_drewN ?_ _ | refine blk_drew ?_ | refine blk_alloc ?_ _)); exact BK139.out⟩
     have n3_ : Aside0 (Kept w (w21.setCell ⟨gb138, 1, none⟩ (.int .i64 (wrap64 (a0_1 + 1)))) (fun k_ => P0_0_ k_)) := ⟨by repeat (first | (with_reducible first | exact HK.out | apply Kept.alloc | apply Kept.drewN | apply Kept.drew | refine Kept.setCell ?_ (.inr GW138.out) _ | refine Kept.setCell ?_ (.inr GW139.out) _) | exact HK.out)⟩
     have n4_ : Aside0 (Below w0.heap.size w0 (w21.setCell ⟨gb138, 1, none⟩ (.int .i64 (wrap64 (a0_1 + 1))))) := ⟨by repeat (first | (with_reducible first | exact HB.out | apply below_alloc | apply pw_below_drewN | apply below_drew1 | refine below_set ?_ GE138.out | refine below_set ?_ GE139.out) | exact HB.out)⟩
     (try clear HO0_0)
     (try clear BK138)
     (try clear BK139)
     (try clear HK)
     (try clear HB)
     generalize (w21.setCell ⟨gb138, 1, none⟩ (.int .i64 (wrap64 (a0_1 + 1)))) = w24 at n0_ n1_ n2_ n3_ n4_ ⊢
     have HO0_0 := n0_
     have BK138 := n1_
     have BK139 := n2_
     have HK := n3_
     have HB := n4_
     clear n0_ n1_ n2_ n3_ n4_
     have n0_ := Aside0.mk (Kd.R_drew HO0_0.out)
     have n1_ := Aside0.mk (blk_drew BK138.out)
     have n2_ := Aside0.mk (blk_drew BK139.out)
     have n3_ := Aside0.mk (Kept.drew HK.out)
     have n4_ := Aside0.mk (below_drew1 HB.out)
     clear HO0_0
     clear BK138
     clear BK139
     clear HK
     clear HB
     have HO0_0 := n0_
     have BK138 := n1_
     have BK139 := n2_
     have HK := n3_
     have HB := n4_
     clear n0_ n1_ n2_ n3_ n4_
     have p140 : 0 ≤ (a1 : Int) := of_decide_eq_true (by first | (with_reducible assumption) | assumption)
     have q140 : a1 < (l0_0.length : Int) := of_decide_eq_true (by first | (with_reducible assumption) | assumption)
     obtain ⟨ad140, e140, hx140_0⟩ := Kd.at_int (Kd.R_reads' HO0_0.out).2.2 a1 p140 q140
     cases e140
     replace p140 := eq_true p140
     replace q140 := eq_true q140
     refine start_ (n := 8) (S := fun w' => w'.cell? ⟨gb138, 0, none⟩ = some (.slice (some ad140) l0_0.length co19) ∧ w'.cell? ⟨gb138, 1, none⟩ = some (.int .i64 (wrap64 (a0_1 + 1))) ∧ w'.cell? (ad140.add (a1).toNat) = some (.int .u64 (rd l0_0 a1))) (ds := []) #[false, false, false, false, false, false, false, false] (by kernel_rfl) rfl rfl ⟨(blk_cell BK138.out 0).trans rfl, (blk_cell BK138.out 1).trans rfl, hx140_0⟩ (fun hHeld => ?_); refine with_tabW corrieref06_Load.tab4 corrieref06_Load.bits4 (fun HT_ HW_ => ?_)
     generalize w24.drew = w25 at HO0_0 BK138 BK139 HK HB hx140_0 hHeld ⊢
     refine pure_ (i := 1) (N := some 21) (v := ?_) (a' := ?_) #[false, true, false, false, false, false, false, false] rfl rfl (any_of HT_.out (by kernel_rfl)) (fun _ _ _ h => h) (Or.inl ⟨by rfl, ?_⟩) ?_ ?_
     rotate_left
     ·intro w'
      go_simp
      with_reducible rfl
     rotate_left
     ·simp only [Act.put, List.setIfInBounds_toArray, List.set_cons_zero, List.set_cons_succ, i64_w, i32_w]
      rfl
     refine pure_ (i := 3) (N := some 23) (v := ?_) (a' := ?_) #[false, true, false, true, false, false, false, false] rfl rfl (any_of HT_.out (by kernel_rfl)) (fun _ _ _ h => h) (Or.inl ⟨by rfl, ?_⟩) ?_ ?_
     rotate_left
     ·intro w'
      go_simp
      with_reducible rfl
     rotate_left
     ·simp only [Act.put, List.setIfInBounds_toArray, List.set_cons_zero, List.set_cons_succ, i64_w, i32_w]
      rfl
     refine take_ (i := 0) (N := some 20) (v := ?_) (a' := ?_) #[true, true, false, true, false, false, false, false] rfl rfl (take_ofW HT_.out HW_.out (by kernel_rfl)) (fun _ _ _ h => h) (Or.inl ⟨by rfl, ?_⟩) hHeld ?_ ?_
     rotate_left
     ·rintro w' ⟨s0, s1, s2⟩
      go_simp
      with_reducible rfl
     rotate_left
     ·simp only [Act.put, List.setIfInBounds_toArray, List.set_cons_zero, List.set_cons_succ, i64_w, i32_w]
      rfl
     refine take_ (i := 2) (N := some 22) (v := ?_) (a' := ?_) #[true, true, true, true, false, false, false, false] rfl rfl (take_ofW HT_.out HW_.out (by kernel_rfl)) (fun _ _ _ h => h) (Or.inl ⟨by rfl, ?_⟩) hHeld ?_ ?_
     rotate_left
     ·rintro w' ⟨s0, s1, s2⟩
      go_simp
      with_reducible rfl
     rotate_left
     ·simp only [Act.put, List.setIfInBounds_toArray, List.set_cons_zero, List.set_cons_succ, i64_w, i32_w]
      rfl
     refine pure_ (i := 4) (N := some 24) (v := ?_) (a' := ?_) #[true, true, true, true, true, false, false, false] rfl rfl (any_of HT_.out (by kernel_rfl)) (fun _ _ _ h => h) (Or.inl ⟨by rfl, ?_⟩) ?_ ?_
     rotate_left
     ·intro w'
      go_simp
      with_reducible rfl
     rotate_left
     ·simp only [Act.put, List.setIfInBounds_toArray, List.set_cons_zero, List.set_cons_succ, i64_w, i32_w]
      rfl
     refine take_ (i := 5) (N := some 25) (v := ?_) (a' := ?_) #[true, true, true, true, true, true, false, false] rfl rfl (take_ofW HT_.out HW_.out (by kernel_rfl)) (fun _ _ _ h => h) (Or.inl ⟨by rfl, ?_⟩) hHeld ?_ ?_
     rotate_left
     ·rintro w' ⟨s0, s1, s2⟩
      go_simp
      with_reducible rfl
     rotate_left
     ·simp only [Act.put, List.setIfInBounds_toArray, List.set_cons_zero, List.set_cons_succ, i64_w, i32_w]
      rfl
     refine one_ (i := 6) (N := none) #[true, true, true, true, true, true, true, false] rfl rfl (one_of HT_.out (by kernel_rfl)) (by decide) (fun K hK => ?_)
     have hs26 : w25.cell? ⟨gb139, 0, none⟩ = some (.slice none 0 0) := (blk_cell BK139.out 0).trans rfl
     have hfs26 := blk_frozen BK139.out 0
     have hns26_0 := NB138_139.out
     have hms26_0 := NB139_138.out
     have hs27 : w25.cell? ⟨gb139, 1, none⟩ = some (.int .i64 0) := (blk_cell BK139.out 1).trans rfl
     have hfs27 := blk_frozen BK139.out 1
     have hns27_0 := NB138_139.out
     have hms27_0 := NB139_138.out
     refine skip_ (w1 := ?_) (by rfl) rfl ?_ ?_
     rotate_left
     ·go_simp
      rfl
     refine hK.out _ _ ⟨((cell_far (p := ⟨gb139, _, none⟩) NB138_139.out _).trans (((cell_far (p := ⟨gb139, _, none⟩) NB138_139.out _).trans (hHeld.1)))), ((cell_far (p := ⟨gb139, _, none⟩) NB138_139.out _).trans (((cell_far (p := ⟨gb139, _, none⟩) NB138_139.out _).trans (hHeld.2.1)))), ((cell_far (p := ⟨gb139, _, none⟩) (by first | exact Kd.own_blk (Kd.R_ne HO0_0.out BK139.out (by decide)) | (rw [add_block]; exact Kd.own_blk (Kd.R_ne HO0_0.out BK139.out (by decide))) | (show (Addr.add _ _).block ≠ _; rw [add_block]; exact Kd.own_blk (Kd.R_ne HO0_0.out BK139.out (by decide))) | (dsimp only; exact Kd.own_blk (Kd.R_ne HO0_0.out BK139.out (by decide)))) _).trans (((cell_far (p := ⟨gb139, _, none⟩) (by first | exact Kd.own_blk (Kd.R_ne HO0_0.out BK139.out (by decide)) | (rw [add_block]; exact Kd.own_blk (Kd.R_ne HO0_0.out BK139.out (by decide))) | (show (Addr.add _ _).block ≠ _; rw [add_block]; exact Kd.own_blk (Kd.R_ne HO0_0.out BK139.out (by decide))) | (dsimp only; exact Kd.own_blk (Kd.R_ne HO0_0.out BK139.out (by decide)))) _).trans (hHeld.2.2))))⟩ (fun hHeld => ?_)
     clear hK K
     refine pure_ (i := 7) (N := some 5) (v := ?_) (a' := ?_) #[true, true, true, true, true, true, true, true] rfl rfl (any_of HT_.out (by kernel_rfl)) (fun _ _ _ h => h) (Or.inl ⟨by rfl, ?_⟩) ?_ ?_
     rotate_left
     ·intro w'
      go_simp
      with_reducible rfl
     rotate_left
     ·simp only [Act.put, List.setIfInBounds_toArray, List.set_cons_zero, List.set_cons_succ, i64_w, i32_w]
      rfl
     refine done_ (done_of HT_.out (by kernel_rfl)) ?_
     try go_wp2
     refine bodyPost_ret (results_ct rfl _ _ gb139 53 #[.slice (some ad140) l0_0.length co19, .int .i64 (wrap64 (a0_1 + 1))] (0, 0) _ rfl (by (with_reducible repeat (first | refine blk_drewN ?_ _ | refine blk_drew ?_ | refine blk_alloc ?_ _)); refine blk_put (cs := #[.slice (some ad140) l0_0.length co19, .int .i64 0]) ?_ 1 _ rfl; (with_reducible repeat (first | refine blk_drewN ?_ _ | refine blk_drew ?_ | refine blk_alloc ?_ _)); refine blk_put (cs := #[.slice none 0 0, .int .i64 0]) ?_ 0 _ rfl; (with_reducible repeat (first | refine blk_drewN ?_ _ | refine blk_drew ?_ | refine blk_alloc ?_ _)); exact BK139.out) Try.underlying53 rfl (by kernel_rfl)) rfl ?_
     exact ⟨_, by first | rfl | (simp [errW_none, errW_some] <;> rfl) | (simp [*, errW_none, errW_some] <;> rfl), by (with_reducible repeat (first | apply Kd.R_alloc | apply Kd.R_drewN | apply Kd.R_drew)); exact Kd.R_mono (Kd.R_far (p := ⟨gb139, 1, none⟩) (Kd.R_far (p := ⟨gb139, 0, none⟩) (Kd.R_types HO0_0.out BK139.out (by decide)) (fun _ hk => hk.2) (.slice (some ad140) l0_0.length co19)) (fun _ hk => hk.2) (.int .i64 (wrap64 (a0_1 + 1)))) (fun _ hk => hk.1), by repeat (first | (with_reducible first | exact HB.out | apply below_alloc | apply pw_below_drewN | apply below_drew1 | refine below_set ?_ GE138.out | refine below_set ?_ GE139.out) | exact HB.out), by repeat (first | (with_reducible first | exact HK.out | apply Kept.alloc | apply Kept.drewN | apply Kept.drew | refine Kept.setCell ?_ (.inr GW138.out) _ | refine Kept.setCell ?_ (.inr GW139.out) _) | exact HK.out)⟩
    ·rw [if_neg c18] at H
     exact absurd H (by simp)
   ·rw [if_neg c17] at H
    exact absurd H (by simp)

/-! ### corrieref08_load: function 86 (by hand) -/
theorem res_ct {P : Program} {fn : Func} {p u : Tmp} {ty : TypeId} (h : fn.results = #[.cell p ty, .tmp u]) (tmps : Array Value) (w : World) (g : Nat) (t0 : TypeId) (cs : Array Value) (fr : Nat × Nat) (d : TypeDesc)
  (hp : tmps.getD p undef = .pointer (some ⟨g, 0, none⟩)) (hg : w.heap[g]? = some (.cells cs t0 fr))
  (hu : P.underlying ty = some d) (hd : (match d with | .struct _ | .array _ _ => true | _ => false) = true) (hi : (P.info? ty).map (·.size) = some cs.size) :
  (results fn tmps).run P w = .ok (.tuple #[.agg cs, tmps.getD u undef]) w := by
 have hp' : tmps[p]?.getD undef = .pointer (some ⟨g, 0, none⟩) := by simpa using hp
 simp [results, h, hp', asAddr, run_loadVar_row w g t0 ty cs fr d hg hu hd hi]
theorem res_c {P : Program} {fn : Func} {p : Tmp} {ty : TypeId} (h : fn.results = #[.cell p ty]) (tmps : Array Value) (w : World) (g : Nat) (t0 : TypeId) (cs : Array Value) (fr : Nat × Nat) (d : TypeDesc)
  (hp : tmps.getD p undef = .pointer (some ⟨g, 0, none⟩)) (hg : w.heap[g]? = some (.cells cs t0 fr))
  (hu : P.underlying ty = some d) (hd : (match d with | .struct _ | .array _ _ => true | _ => false) = true) (hi : (P.info? ty).map (·.size) = some cs.size) :
  (results fn tmps).run P w = .ok (.agg cs) w := by
 have hp' : tmps[p]?.getD undef = .pointer (some ⟨g, 0, none⟩) := by simpa using hp
 simp [results, h, hp', asAddr, run_loadVar_row w g t0 ty cs fr d hg hu hd hi]
theorem res_cttt {P : Program} {fn : Func} {p u v x : Tmp} {ty : TypeId} (h : fn.results = #[.cell p ty, .tmp u, .tmp v, .tmp x]) (tmps : Array Value) (w : World) (g : Nat) (t0 : TypeId) (cs : Array Value) (fr : Nat × Nat) (d : TypeDesc)
  (hp : tmps.getD p undef = .pointer (some ⟨g, 0, none⟩)) (hg : w.heap[g]? = some (.cells cs t0 fr))
  (hu : P.underlying ty = some d) (hd : (match d with | .struct _ | .array _ _ => true | _ => false) = true) (hi : (P.info? ty).map (·.size) = some cs.size) :
  (results fn tmps).run P w = .ok (.tuple #[.agg cs, tmps.getD u undef, tmps.getD v undef, tmps.getD x undef]) w := by
 have hp' : tmps[p]?.getD undef = .pointer (some ⟨g, 0, none⟩) := by simpa using hp
 simp [results, h, hp', asAddr, run_loadVar_row w g t0 ty cs fr d hg hu hd hi]
theorem cel_rload (ws : List Int) (st a1 : Int) : corrieref06_Load.f ws st a1 = some (ws, cSt ws st a1, cRd ws a1) := by
 unfold corrieref06_Load.f cSt cRd cInb
 by_cases h1 : a1 < 0
 ·rw [if_pos h1]; simp; omega
 ·by_cases h2 : a1 ≥ (ws.length : Int)
  ·rw [if_neg h1, if_pos h2]; simp; omega
  ·rw [if_neg h1, if_neg h2, if_pos (by omega), if_pos (by omega), if_pos (decide_eq_true (by omega)), if_pos (decide_eq_true (by omega))]; rfl
def T25 (W W1 : World) : Prop := Touch (fun k => ∃ cs : Array Value, W.heap[k]? = some (.cells cs 25 (0, 0))) W W1
theorem T25.refl (W : World) : T25 W W := Touch.refl _ W
theorem T25.size {a b : World} (h : T25 a b) : a.heap.size ≤ b.heap.size := Touch.size h
theorem T25.drew {a b : World} (h : T25 a b) : T25 a b.drew := Touch.drew h
theorem T25.below {a b c : World} (h : T25 a b) (hb : Below b.heap.size b c) : T25 a c := Touch.trans h (.of_below hb)
theorem T25.grown {a b c : World} {g : Nat} (h : T25 a b) (hg : b.grownBy c (some g)) (hN : a.heap.size ≤ g) : T25 a c :=
 ⟨hg.os.trans h.os, hg.tape.trans h.tape, hg.output.trans h.output, Nat.le_trans h.size hg.size, fun k hk hs => (hg.block k (Nat.lt_of_lt_of_le hk h.size) (fun e => by have := Option.some.inj e; omega)).trans (h.block k hk hs)⟩
theorem blk_t25 {W W1 : World} {k : Nat} {cs : Array Value} {t : Nat} (h : W.heap[k]? = some (.cells cs t (0, 0))) (hT : T25 W W1) (ht : t ≠ 25) : W1.heap[k]? = some (.cells cs t (0, 0)) :=
 blk_touch h hT (by
  rintro ⟨cs', h'⟩
  rw [h] at h'
  injection h' with h'
  injection h' with _ h' _
  exact ht h')
theorem T25.trans {a b c : World} (h : T25 a b) (k : T25 b c) : T25 a c :=
 ⟨k.os.trans h.os, k.tape.trans h.tape, k.output.trans h.output, Nat.le_trans h.size k.size, fun j hj hs => (k.block j (Nat.lt_of_lt_of_le hj h.size) (fun ⟨cs, e⟩ => hs ⟨cs, (h.block j hj hs).symm.trans e⟩)).trans (h.block j hj hs)⟩
theorem T25.of_kept {w0 w w' : World} (h0 : Below w0.heap.size w0 w) (h1 : Below w0.heap.size w0 w') (hk : Kept w w' (fun k => ∃ cs : Array Value, w.heap[k]? = some (.cells cs 25 (0, 0)))) : T25 w w' :=
 ⟨h1.os.trans h0.os.symm, h1.tape.trans h0.tape.symm, h1.output.trans h0.output.symm, hk.1, hk.2⟩
def RU (w0 W : World) (A : Option Addr) (C : Nat) (ws : List Int) : Prop := Kd.R (Kd.int .u64) 25 W w0.heap.size (fun _ => True) (.slice A ws.length C) ws
theorem RU.below {w0 W W1 : World} {A : Option Addr} {C : Nat} {ws : List Int} (h : RU w0 W A C ws) (hb : Below W.heap.size W W1) : RU w0 W1 A C ws := Kd.R_below h hb
theorem RU.drew {w0 W : World} {A : Option Addr} {C : Nat} {ws : List Int} (h : RU w0 W A C ws) : RU w0 W.drew A C ws := Kd.R_drew h
theorem RU.grown {w0 W W1 : World} {A : Option Addr} {C : Nat} {ws : List Int} {g t : Nat} {cells : Array Value} (h : RU w0 W A C ws) (hb : W.heap[g]? = some (.cells cells t (0, 0))) (ht : 25 ≠ t) (hg : W.grownBy W1 (some g)) : RU w0 W1 A C ws :=
 Kd.R_mono (Kd.R_grown (Kd.R_types h hb (fun q hq => by
  have : q = 25 := List.mem_singleton.mp hq
  rw [this]
  exact ht)) hg (fun k hk e => hk.2 (Option.some.inj e))) (fun _ _ => trivial)
theorem RU.ok {w0 W : World} {A : Option Addr} {C : Nat} {ws : List Int} (h : RU w0 W A C ws) : Kd.R (Kd.int .u64) 25 W w0.heap.size (fun k => ∃ cs : Array Value, W.heap[k]? = some (.cells cs 25 (0, 0))) (.slice A ws.length C) ws :=
 Kd.R_mono (Kd.R_bound h) (fun k hk => by
  obtain ⟨_, _, _, q, hq, cells, hc⟩ := hk
  have : q = 25 := List.mem_singleton.mp hq
  rw [this] at hc
  exact ⟨cells, hc⟩)
theorem d6_Load (w0 W : World) (A : Option Addr) (C : Nat) (ws : List Int) (st x : Int) (hB : Below w0.heap.size w0 W) (hR : RU w0 W A C ws) :
  Calls Try.prog 100 #[.agg #[.slice A ws.length C, .int .i64 st], .int .i64 x] W fun e w' => ∃ (A' : Option Addr) (C' : Nat), e = .returned (.tuple #[.agg #[.slice A' ws.length C', .int .i64 (cSt ws st x)], .int .u64 (cRd ws x)]) ∧ RU w0 w' A' C' ws ∧ T25 W w' ∧ Below w0.heap.size w0 w' :=
 (corrieref06_Load.calls _ _ ws st x ws _ _ w0 W hB hR.ok (cel_rload ws st x)).mono (fun e w' hh => by
  obtain ⟨v, rfl, h1, h2, h3⟩ := hh
  obtain ⟨A', C', rfl⟩ := Kd.R_slice h1
  exact ⟨A', C', rfl, Kd.R_mono h1 (fun _ _ => trivial), .of_kept hB h2 h3, h2⟩)
set_option maxHeartbeats 8000000 in
set_option maxRecDepth 100000 in
theorem d8_load (w0 W : World) (c : S23) (t : Nat) (q : R8) (A : Option Addr) (C : Nat) (ws : List Int) (st x : Int) (hB : Below w0.heap.size w0 W) (hR : RU w0 W A C ws) :
  Calls Try.prog 86 #[.agg #[.int .i64 c.f0, .int .i64 c.f1, .int .i64 c.f2, .int .i64 c.f3, .int .i64 c.f4, .slice A ws.length C, .int .i64 st, .int .i64 c.f0, .int .i64 c.f1, .int .i64 c.f2, .int .i64 c.f3, .int .i64 c.f4, .slice q.a5 t q.c5, .slice q.a6 t q.c6, .slice q.a7 t q.c7, .slice q.a8 0 q.c8, .slice q.a9 0 q.c9], .int .i64 x] W fun e w' => ∃ (A' : Option Addr) (C' : Nat), e = .returned (.tuple #[.agg #[.int .i64 c.f0, .int .i64 c.f1, .int .i64 c.f2, .int .i64 c.f3, .int .i64 c.f4, .slice A' ws.length C', .int .i64 (cSt ws st x), .int .i64 c.f0, .int .i64 c.f1, .int .i64 c.f2, .int .i64 c.f3, .int .i64 c.f4, .slice q.a5 t q.c5, .slice q.a6 t q.c6, .slice q.a7 t q.c7, .slice q.a8 0 q.c8, .slice q.a9 0 q.c9], .int .u64 (cRd ws x)]) ∧ RU w0 w' A' C' ws ∧ T25 W w' ∧ Below w0.heap.size w0 w' := by
 have HR := Aside0.mk hR
 have HB := Aside0.mk hB
 have HB0 := Aside0.mk hB.size
 have HT := Aside0.mk (T25.refl W)
 clear hR hB
 go_enter Try.func86, Try.ntmps86
 go_wp2_with (first | ((with_reducible refine gate_dst (N := 2) rfl ?_); refine box_event ?hg1 (N := 2) ?hd1 (cs := #[.int .i64 c.f0, .int .i64 c.f1, .int .i64 c.f2, .int .i64 c.f3, .int .i64 c.f4, .slice A ws.length C, .int .i64 st, .int .i64 c.f0, .int .i64 c.f1, .int .i64 c.f2, .int .i64 c.f3, .int .i64 c.f4, .slice q.a5 t q.c5, .slice q.a6 t q.c6, .slice q.a7 t q.c7, .slice q.a8 0 q.c8, .slice q.a9 0 q.c9]) (t := 60) ?hr1 ?_; (case hd1 => rfl); (case hg1 => rfl); (case hr1 => first | (go_simp; done) | (go_simp; rfl)); intro g1 hg w1_ hbox hbk; have HGB1 := Aside0.mk (show W.heap.size ≤ g1 from by rw [hg]; have := HT.out.size; omega); have n_HR := Aside0.mk (HR.out.below hbk); have n_HT := Aside0.mk (HT.out.below hbk); have n_HB := Aside0.mk (below_step HB.out hbk); clear HR HT HB; have HR := n_HR; have HT := n_HT; have HB := n_HB; clear n_HR n_HT n_HB; have B1 := Aside0.mk hbox; clear hbk hbox hg) | ((with_reducible refine gate_dst (N := 4) rfl ?_); refine box_event ?hg2 (N := 4) ?hd2 (cs := #[.int .i64 0, .int .i64 0, .int .i64 0, .int .i64 0, .int .i64 0, .slice none 0 0, .int .i64 0, .int .i64 0, .int .i64 0, .int .i64 0, .int .i64 0, .int .i64 0, .slice none 0 0, .slice none 0 0, .slice none 0 0, .slice none 0 0, .slice none 0 0]) (t := 60) ?hr2 ?_; (case hd2 => rfl); (case hg2 => rfl); (case hr2 => first | (go_simp; done) | (go_simp; rfl)); intro g2 hg w2_ hbox hbk; have HGB2 := Aside0.mk (show g1 ≠ g2 ∧ W.heap.size ≤ g2 from by rw [hg]; have := blk_lt B1.out; have := HT.out.size; omega); have n_HR := Aside0.mk (HR.out.below hbk); have n_HT := Aside0.mk (HT.out.below hbk); have n_HB := Aside0.mk (below_step HB.out hbk); have n_B1 := Aside0.mk (blk_below B1.out hbk); clear HR HT HB B1; have HR := n_HR; have HT := n_HT; have HB := n_HB; have B1 := n_B1; clear n_HR n_HT n_HB n_B1; have B2 := Aside0.mk hbox; clear hbk hbox hg) | ((with_reducible refine gate_dst (N := 10) rfl ?_); refine wq_loadA (ty := 53) (p := .tmp 9) (g := g1) (i := 5) (k := 2) (vs := ?vs3) ?hgd3 ?ho3 ?hp3 Try.underlying53 ?hd3 ?hi3 B1.out ?hv3 ?hk3 ?_; (case hd3 => rfl); (case hi3 => kernel_rfl); (case hgd3 => rfl); (case ho3 => rfl); (case hp3 => rfl); (case hv3 => simp only [List.drop_succ_cons, List.drop_zero, List.take_succ_cons, List.take_zero, List.take_nil, List.drop_nil]; with_reducible rfl); (case hk3 => rfl)) | (go_at_call 100; (with_reducible refine (d6_Load w0 _ _ _ _ _ _ HB.out HR.out).mono ?_); rintro e u3_ ⟨A1, C1, rfl, hR, hT, hb⟩; have n_HR := Aside0.mk hR; have n_HT := Aside0.mk (HT.out.trans hT); have n_HB := Aside0.mk hb; have n_B1 := Aside0.mk (blk_t25 B1.out hT (by decide)); have n_B2 := Aside0.mk (blk_t25 B2.out hT (by decide)); clear HR HT HB B1 B2 hR hT hb; have HR := n_HR; have HT := n_HT; have HB := n_HB; have B1 := n_B1; have B2 := n_B2; clear n_HR n_HT n_HB n_B1 n_B2) | ((with_reducible refine gate_dst (N := 6) rfl ?_); refine box_event ?hg5 (N := 6) ?hd5 (cs := #[.slice none 0 0, .int .i64 0]) (t := 53) ?hr5 ?_; (case hd5 => rfl); (case hg5 => rfl); (case hr5 => first | (go_simp; done) | (go_simp; rfl)); intro g3 hg w4_ hbox hbk; have HGB3 := Aside0.mk (show g1 ≠ g3 ∧ g2 ≠ g3 ∧ W.heap.size ≤ g3 from by rw [hg]; have := blk_lt B1.out; have := blk_lt B2.out; have := HT.out.size; omega); have n_HR := Aside0.mk (HR.out.below hbk); have n_HT := Aside0.mk (HT.out.below hbk); have n_HB := Aside0.mk (below_step HB.out hbk); have n_B1 := Aside0.mk (blk_below B1.out hbk); have n_B2 := Aside0.mk (blk_below B2.out hbk); clear HR HT HB B1 B2; have HR := n_HR; have HT := n_HT; have HB := n_HB; have B1 := n_B1; have B2 := n_B2; clear n_HR n_HT n_HB n_B1 n_B2; have B3 := Aside0.mk hbox; clear hbk hbox hg) | ((with_reducible refine gate_store (p := 6) rfl ?_); refine wq_store (ty := 53) (p := .tmp 6) (x := .tmp 13) (g := g3) (i := 0) (k := 2) (v := ?v6) (vs := ?vs6) (cs' := ?cs6) ?hgd6 ?hdst6 ?ho6 ?hp6 ?hx6 ?hvc6 ?hi6 ?hk6 ?h16 B3.out ?hsz6 ?hcs6 ?_; (case hi6 => kernel_rfl); (case hgd6 => rfl); (case hdst6 => rfl); (case ho6 => rfl); (case hp6 => rfl); (case hx6 => go_simp; with_reducible rfl); (case hvc6 => simp only [Value.cells]; with_reducible rfl); (case hk6 => rfl); (case h16 => rfl); (case hsz6 => exact Nat.le_of_ble_eq_true rfl); (case hcs6 => simp only [wqPut, List.setIfInBounds_toArray, List.set_cons_succ, List.set_cons_zero, Nat.reduceAdd]; with_reducible rfl); intro w5_ hb hgr; have n_HR := Aside0.mk (HR.out.grown B3.out (by decide) hgr); have n_HT := Aside0.mk (HT.out.grown hgr HGB3.out.2.2); have n_HB := Aside0.mk (HB.out.grown hgr HB.out.size (fun k hk => by cases hk; exact Nat.le_trans HB0.out HGB3.out.2.2)); have n_B1 := Aside0.mk (wq_blk B1.out hgr HGB3.out.1); have n_B2 := Aside0.mk (wq_blk B2.out hgr HGB3.out.2.1); have n_B3 := Aside0.mk hb; clear HR HT HB B1 B2 B3 hb hgr; have HR := n_HR; have HT := n_HT; have HB := n_HB; have B1 := n_B1; have B2 := n_B2; have B3 := n_B3; clear n_HR n_HT n_HB n_B1 n_B2 n_B3) | ((with_reducible refine gate_dst (N := 15) rfl ?_); refine wq_loadA (ty := 53) (p := .tmp 6) (g := g3) (i := 0) (k := 2) (vs := ?vs7) ?hgd7 ?ho7 ?hp7 Try.underlying53 ?hd7 ?hi7 B3.out ?hv7 ?hk7 ?_; (case hd7 => rfl); (case hi7 => kernel_rfl); (case hgd7 => rfl); (case ho7 => rfl); (case hp7 => rfl); (case hv7 => simp only [List.drop_succ_cons, List.drop_zero, List.take_succ_cons, List.take_zero, List.take_nil, List.drop_nil]; with_reducible rfl); (case hk7 => rfl)) | ((with_reducible refine gate_store (p := 16) rfl ?_); refine wq_store (ty := 53) (p := .tmp 16) (x := .tmp 15) (g := g1) (i := 5) (k := 2) (v := ?v8) (vs := ?vs8) (cs' := ?cs8) ?hgd8 ?hdst8 ?ho8 ?hp8 ?hx8 ?hvc8 ?hi8 ?hk8 ?h18 B1.out ?hsz8 ?hcs8 ?_; (case hi8 => kernel_rfl); (case hgd8 => rfl); (case hdst8 => rfl); (case ho8 => rfl); (case hp8 => rfl); (case hx8 => go_simp; with_reducible rfl); (case hvc8 => simp only [Value.cells]; with_reducible rfl); (case hk8 => rfl); (case h18 => rfl); (case hsz8 => exact Nat.le_of_ble_eq_true rfl); (case hcs8 => simp only [wqPut, List.setIfInBounds_toArray, List.set_cons_succ, List.set_cons_zero, Nat.reduceAdd]; with_reducible rfl); intro w6_ hb hgr; have n_HR := Aside0.mk (HR.out.grown B1.out (by decide) hgr); have n_HT := Aside0.mk (HT.out.grown hgr HGB1.out); have n_HB := Aside0.mk (HB.out.grown hgr HB.out.size (fun k hk => by cases hk; exact Nat.le_trans HB0.out HGB1.out)); have n_B1 := Aside0.mk hb; have n_B2 := Aside0.mk (wq_blk B2.out hgr (Ne.symm HGB2.out.1)); have n_B3 := Aside0.mk (wq_blk B3.out hgr (Ne.symm HGB3.out.1)); clear HR HT HB B1 B2 B3 hb hgr; have HR := n_HR; have HT := n_HT; have HB := n_HB; have B1 := n_B1; have B2 := n_B2; have B3 := n_B3; clear n_HR n_HT n_HB n_B1 n_B2 n_B3) | ((with_reducible refine gate_dst (N := 17) rfl ?_); refine wq_loadA (ty := 60) (p := .tmp 2) (g := g1) (i := 0) (k := 17) (vs := ?vs9) ?hgd9 ?ho9 ?hp9 Try.underlying60 ?hd9 ?hi9 B1.out ?hv9 ?hk9 ?_; (case hd9 => rfl); (case hi9 => kernel_rfl); (case hgd9 => rfl); (case ho9 => rfl); (case hp9 => rfl); (case hv9 => simp only [List.drop_succ_cons, List.drop_zero, List.take_succ_cons, List.take_zero, List.take_nil, List.drop_nil]; with_reducible rfl); (case hk9 => rfl)) | ((with_reducible refine gate_store (p := 4) rfl ?_); refine wq_store (ty := 60) (p := .tmp 4) (x := .tmp 17) (g := g2) (i := 0) (k := 17) (v := ?v10) (vs := ?vs10) (cs' := ?cs10) ?hgd10 ?hdst10 ?ho10 ?hp10 ?hx10 ?hvc10 ?hi10 ?hk10 ?h110 B2.out ?hsz10 ?hcs10 ?_; (case hi10 => kernel_rfl); (case hgd10 => rfl); (case hdst10 => rfl); (case ho10 => rfl); (case hp10 => rfl); (case hx10 => go_simp; with_reducible rfl); (case hvc10 => simp only [Value.cells]; with_reducible rfl); (case hk10 => rfl); (case h110 => rfl); (case hsz10 => exact Nat.le_of_ble_eq_true rfl); (case hcs10 => simp only [wqPut, List.setIfInBounds_toArray, List.set_cons_succ, List.set_cons_zero, Nat.reduceAdd]; with_reducible rfl); intro w7_ hb hgr; have n_HR := Aside0.mk (HR.out.grown B2.out (by decide) hgr); have n_HT := Aside0.mk (HT.out.grown hgr HGB2.out.2); have n_HB := Aside0.mk (HB.out.grown hgr HB.out.size (fun k hk => by cases hk; exact Nat.le_trans HB0.out HGB2.out.2)); have n_B1 := Aside0.mk (wq_blk B1.out hgr HGB2.out.1); have n_B2 := Aside0.mk hb; have n_B3 := Aside0.mk (wq_blk B3.out hgr (Ne.symm HGB3.out.2.1)); clear HR HT HB B1 B2 B3 hb hgr; have HR := n_HR; have HT := n_HT; have HB := n_HB; have B1 := n_B1; have B2 := n_B2; have B3 := n_B3; clear n_HR n_HT n_HB n_B1 n_B2 n_B3))
 refine bodyPost_ret (res_ct rfl _ _ _ _ _ _ _ rfl B2.out Try.underlying60 rfl (by kernel_rfl)) rfl ?_
 exact ⟨A1, C1, rfl, HR.out, HT.out, HB.out⟩


/-! ### corrieref05_in: function 85 -/
def corrieref05_in.f (k : Nat) (a0_0 : Int) (a0_1 : Int) (a0_2 : Int) (a0_3 : Int) (a0_4 : Int) (a1 : Int) (a2 : Int) : Option (Bool) := (corrieref04_May.f k a0_0 a0_1 a0_2 a0_3 a0_4).bind fun t142 => (if t142 = 0 then (if a1 ≥ 0 then (some (decide (a1 < a2))) else (some false)) else (some false))
theorem corrieref05_in.mono : ∀ a0 a1 a2 a3 a4 a5 a6 k, LeO (corrieref05_in.f k a0 a1 a2 a3 a4 a5 a6) (corrieref05_in.f (k + 1) a0 a1 a2 a3 a4 a5 a6) := by
 intro a0 a1 a2 a3 a4 a5 a6 k
 unfold corrieref05_in.f
 repeat' first
   | (with_reducible exact corrieref04_May.mono _ _ _ _ _ _)
   | (with_reducible exact LeO.refl _)
   | (with_reducible exact LeO.none _)
   | (with_reducible refine LeO.ite ?_ ?_)
   | (with_reducible refine LeO.bind ?_ (fun _ => ?_))
   | exact corrieref04_May.mono _ _ _ _ _ _
   | exact LeO.none _
   | refine LeO.ite ?_ ?_
   | refine LeO.bind ?_ (fun _ => ?_)
set_option maxHeartbeats 8000000 in
set_option maxRecDepth 100000 in
theorem corrieref05_in.calls (k : Nat) (a0_0 : Int) (a0_1 : Int) (a0_2 : Int) (a0_3 : Int) (a0_4 : Int) (a1 : Int) (a2 : Int) (r : Bool) (w : World) (h : corrieref05_in.f k a0_0 a0_1 a0_2 a0_3 a0_4 a1 a2 = some r) :
  Calls Try.prog 85 #[.agg #[.int .i64 a0_0, .int .i64 a0_1, .int .i64 a0_2, .int .i64 a0_3, .int .i64 a0_4], .int .i64 a1, .int .i64 a2] w fun e w' => e = .returned (.bool r) ∧ Below w.heap.size w w' := by
 have hu23 := Try.underlying23
 have HB := Aside0.mk (Below.refl w.heap.size w)
 have H : ((corrieref04_May.f k a0_0 a0_1 a0_2 a0_3 a0_4).bind fun t142 => (if t142 = 0 then (if a1 ≥ 0 then (some (decide (a1 < a2))) else (some false)) else (some false))) = some r := h
 clear h
 replace H := Option.bind_eq_some_iff.mp H
 obtain ⟨t142, A40, H⟩ := H
 replace H : (if t142 = 0 then (if a1 ≥ 0 then (some (decide (a1 < a2))) else (some false)) else (some false)) = some r := H
 have A4 := Aside0.mk A40
 clear A40
 by_cases c5 : t142 = 0
 ·rw [if_pos c5] at H
  have c5b0 : (t142 == 0) = true := beq_iff_eq.mpr c5
  have c5b1 : (t142 != 0) = false := bne_eq_false_iff_eq.mpr c5
  clear c5
  by_cases c6 : a1 ≥ 0
  ·rw [if_pos c6] at H
   have c6b0 : decide (0 ≤ a1) = true := decide_eq_true c6
   clear c6
   obtain rfl := Option.some.inj H
   go_enter Try.func85, Try.ntmps85
   go_wp2_with (first | ((with_reducible refine gate_dst (N := 3) rfl ?_); refine box_event ?hg (N := 3) ?hd (cs := #[.int .i64 a0_0, .int .i64 a0_1, .int .i64 a0_2, .int .i64 a0_3, .int .i64 a0_4]) (t := 23) ?hr ?_; (case hd => rfl); (case hg => rfl); (case hr => first | (go_simp; done) | (go_simp; rfl)); intro gb141 hg w7 hbox hb; have n0_ := Aside0.mk (below_step (by repeat (first | (with_reducible first | exact HB.out | apply below_alloc | apply pw_below_drewN | apply below_drew1) | exact HB.out)) hb); have n1_ := Aside0.mk (hbox); have n2_ := Aside0.mk ((by rw [hg]; exact (below_size (by repeat (first | (with_reducible first | exact HB.out | apply below_alloc | apply pw_below_drewN | apply below_drew1) | exact HB.out))) : w.heap.size ≤ gb141)); have n3_ := Aside0.mk ((by rw [hg]; exact (below_size (by repeat (first | (with_reducible first | exact HB.out | apply below_alloc | apply pw_below_drewN | apply below_drew1) | exact HB.out))) : w.heap.size ≤ gb141)); clear HB; have HB := n0_; have BK141 := n1_; have GW141 := n2_; have GE141 := n3_; clear n0_ n1_ n2_ n3_; clear hb hbox hg; have hcz8_0 : w7.cell? ⟨gb141, 0, none⟩ = some (.int .i64 a0_0) := (blk_cell BK141.out 0).trans rfl; have hcz8_1 : w7.cell? ⟨gb141, 1, none⟩ = some (.int .i64 a0_1) := (blk_cell BK141.out 1).trans rfl; have hcz8_2 : w7.cell? ⟨gb141, 2, none⟩ = some (.int .i64 a0_2) := (blk_cell BK141.out 2).trans rfl; have hcz8_3 : w7.cell? ⟨gb141, 3, none⟩ = some (.int .i64 a0_3) := (blk_cell BK141.out 3).trans rfl; have hcz8_4 : w7.cell? ⟨gb141, 4, none⟩ = some (.int .i64 a0_4) := (blk_cell BK141.out 4).trans rfl; have hfz8_0 := blk_frozen BK141.out 0; have hfz8_1 := blk_frozen BK141.out 1; have hfz8_2 := blk_frozen BK141.out 2; have hfz8_3 := blk_frozen BK141.out 3; have hfz8_4 := blk_frozen BK141.out 4) | ((with_reducible refine gate_callee (f := 31) rfl ?_); refine goesL_ (some 8) rfl rfl Try.func31 (by kernel_rfl) rfl #[.agg #[.int .i64 a0_0, .int .i64 a0_1, .int .i64 a0_2, .int .i64 a0_3, .int .i64 a0_4]] rfl (by (try simp only [List.map_toArray, List.map_cons, List.map_nil]); first | done | rfl | (simp only [List.length_drop, List.length_take]; rfl)) ?_; (with_reducible refine (corrieref04_May.calls k a0_0 a0_1 a0_2 a0_3 a0_4 t142 _ A4.out).mono ?_); rintro e w9 ⟨rfl, hb⟩; refine ⟨_, rfl, ?_⟩; have n0_ := Aside0.mk (blk_below (g := gb141) (o := .cells #[.int .i64 a0_0, .int .i64 a0_1, .int .i64 a0_2, .int .i64 a0_3, .int .i64 a0_4] 23 (0, 0)) (by (with_reducible repeat (first | refine blk_drewN ?_ _ | refine blk_drew ?_ | refine blk_alloc ?_ _)); exact BK141.out) hb); have n1_ := Aside0.mk (below_step (by repeat (first | (with_reducible first | exact HB.out | apply below_alloc | apply pw_below_drewN | apply below_drew1 | refine below_set ?_ GE141.out) | exact HB.out)) hb); clear BK141; clear HB; have BK141 := n0_; have HB := n1_; clear n0_ n1_; (try clear hb); (try clear hb2); (try clear hk); (try clear hi)))
   go_ret
   exact ⟨by first | rfl | (simp [errW_none, errW_some] <;> rfl) | (simp [*, errW_none, errW_some] <;> rfl), by repeat (first | (with_reducible first | exact HB.out | apply below_alloc | apply pw_below_drewN | apply below_drew1 | refine below_set ?_ GE141.out) | exact HB.out)⟩
  ·rw [if_neg c6] at H
   have c6b0 : decide (0 ≤ a1) = false := decide_eq_false c6
   clear c6
   obtain rfl := Option.some.inj H
   go_enter Try.func85, Try.ntmps85
   go_wp2_with (first | ((with_reducible refine gate_dst (N := 3) rfl ?_); refine box_event ?hg (N := 3) ?hd (cs := #[.int .i64 a0_0, .int .i64 a0_1, .int .i64 a0_2, .int .i64 a0_3, .int .i64 a0_4]) (t := 23) ?hr ?_; (case hd => rfl); (case hg => rfl); (case hr => first | (go_simp; done) | (go_simp; rfl)); intro gb141 hg w10 hbox hb; have n0_ := Aside0.mk (below_step (by repeat (first | (with_reducible first | exact HB.out | apply below_alloc | apply pw_below_drewN | apply below_drew1) | exact HB.out)) hb); have n1_ := Aside0.mk (hbox); have n2_ := Aside0.mk ((by rw [hg]; exact (below_size (by repeat (first | (with_reducible first | exact HB.out | apply below_alloc | apply pw_below_drewN | apply below_drew1) | exact HB.out))) : w.heap.size ≤ gb141)); have n3_ := Aside0.mk ((by rw [hg]; exact (below_size (by repeat (first | (with_reducible first | exact HB.out | apply below_alloc | apply pw_below_drewN | apply below_drew1) | exact HB.out))) : w.heap.size ≤ gb141)); clear HB; have HB := n0_; have BK141 := n1_; have GW141 := n2_; have GE141 := n3_; clear n0_ n1_ n2_ n3_; clear hb hbox hg; have hcz11_0 : w10.cell? ⟨gb141, 0, none⟩ = some (.int .i64 a0_0) := (blk_cell BK141.out 0).trans rfl; have hcz11_1 : w10.cell? ⟨gb141, 1, none⟩ = some (.int .i64 a0_1) := (blk_cell BK141.out 1).trans rfl; have hcz11_2 : w10.cell? ⟨gb141, 2, none⟩ = some (.int .i64 a0_2) := (blk_cell BK141.out 2).trans rfl; have hcz11_3 : w10.cell? ⟨gb141, 3, none⟩ = some (.int .i64 a0_3) := (blk_cell BK141.out 3).trans rfl; have hcz11_4 : w10.cell? ⟨gb141, 4, none⟩ = some (.int .i64 a0_4) := (blk_cell BK141.out 4).trans rfl; have hfz11_0 := blk_frozen BK141.out 0; have hfz11_1 := blk_frozen BK141.out 1; have hfz11_2 := blk_frozen BK141.out 2; have hfz11_3 := blk_frozen BK141.out 3; have hfz11_4 := blk_frozen BK141.out 4) | ((with_reducible refine gate_callee (f := 31) rfl ?_); refine goesL_ (some 8) rfl rfl Try.func31 (by kernel_rfl) rfl #[.agg #[.int .i64 a0_0, .int .i64 a0_1, .int .i64 a0_2, .int .i64 a0_3, .int .i64 a0_4]] rfl (by (try simp only [List.map_toArray, List.map_cons, List.map_nil]); first | done | rfl | (simp only [List.length_drop, List.length_take]; rfl)) ?_; (with_reducible refine (corrieref04_May.calls k a0_0 a0_1 a0_2 a0_3 a0_4 t142 _ A4.out).mono ?_); rintro e w12 ⟨rfl, hb⟩; refine ⟨_, rfl, ?_⟩; have n0_ := Aside0.mk (blk_below (g := gb141) (o := .cells #[.int .i64 a0_0, .int .i64 a0_1, .int .i64 a0_2, .int .i64 a0_3, .int .i64 a0_4] 23 (0, 0)) (by (with_reducible repeat (first | refine blk_drewN ?_ _ | refine blk_drew ?_ | refine blk_alloc ?_ _)); exact BK141.out) hb); have n1_ := Aside0.mk (below_step (by repeat (first | (with_reducible first | exact HB.out | apply below_alloc | apply pw_below_drewN | apply below_drew1 | refine below_set ?_ GE141.out) | exact HB.out)) hb); clear BK141; clear HB; have BK141 := n0_; have HB := n1_; clear n0_ n1_; (try clear hb); (try clear hb2); (try clear hk); (try clear hi)))
   go_ret
   exact ⟨by first | rfl | (simp [errW_none, errW_some] <;> rfl) | (simp [*, errW_none, errW_some] <;> rfl), by repeat (first | (with_reducible first | exact HB.out | apply below_alloc | apply pw_below_drewN | apply below_drew1 | refine below_set ?_ GE141.out) | exact HB.out)⟩
 ·rw [if_neg c5] at H
  have c5b0 : (t142 == 0) = false := beq_eq_false_iff_ne.mpr c5
  have c5b1 : (t142 != 0) = true := bne_iff_ne.mpr c5
  obtain rfl := Option.some.inj H
  go_enter Try.func85, Try.ntmps85
  go_wp2_with (first | ((with_reducible refine gate_dst (N := 3) rfl ?_); refine box_event ?hg (N := 3) ?hd (cs := #[.int .i64 a0_0, .int .i64 a0_1, .int .i64 a0_2, .int .i64 a0_3, .int .i64 a0_4]) (t := 23) ?hr ?_; (case hd => rfl); (case hg => rfl); (case hr => first | (go_simp; done) | (go_simp; rfl)); intro gb141 hg w13 hbox hb; have n0_ := Aside0.mk (below_step (by repeat (first | (with_reducible first | exact HB.out | apply below_alloc | apply pw_below_drewN | apply below_drew1) | exact HB.out)) hb); have n1_ := Aside0.mk (hbox); have n2_ := Aside0.mk ((by rw [hg]; exact (below_size (by repeat (first | (with_reducible first | exact HB.out | apply below_alloc | apply pw_below_drewN | apply below_drew1) | exact HB.out))) : w.heap.size ≤ gb141)); have n3_ := Aside0.mk ((by rw [hg]; exact (below_size (by repeat (first | (with_reducible first | exact HB.out | apply below_alloc | apply pw_below_drewN | apply below_drew1) | exact HB.out))) : w.heap.size ≤ gb141)); clear HB; have HB := n0_; have BK141 := n1_; have GW141 := n2_; have GE141 := n3_; clear n0_ n1_ n2_ n3_; clear hb hbox hg; have hcz14_0 : w13.cell? ⟨gb141, 0, none⟩ = some (.int .i64 a0_0) := (blk_cell BK141.out 0).trans rfl; have hcz14_1 : w13.cell? ⟨gb141, 1, none⟩ = some (.int .i64 a0_1) := (blk_cell BK141.out 1).trans rfl; have hcz14_2 : w13.cell? ⟨gb141, 2, none⟩ = some (.int .i64 a0_2) := (blk_cell BK141.out 2).trans rfl; have hcz14_3 : w13.cell? ⟨gb141, 3, none⟩ = some (.int .i64 a0_3) := (blk_cell BK141.out 3).trans rfl; have hcz14_4 : w13.cell? ⟨gb141, 4, none⟩ = some (.int .i64 a0_4) := (blk_cell BK141.out 4).trans rfl; have hfz14_0 := blk_frozen BK141.out 0; have hfz14_1 := blk_frozen BK141.out 1; have hfz14_2 := blk_frozen BK141.out 2; have hfz14_3 := blk_frozen BK141.out 3; have hfz14_4 := blk_frozen BK141.out 4) | ((with_reducible refine gate_callee (f := 31) rfl ?_); refine goesL_ (some 8) rfl rfl Try.func31 (by kernel_rfl) rfl #[.agg #[.int .i64 a0_0, .int .i64 a0_1, .int .i64 a0_2, .int .i64 a0_3, .int .i64 a0_4]] rfl (by (try simp only [List.map_toArray, List.map_cons, List.map_nil]); first | done | rfl | (simp only [List.length_drop, List.length_take]; rfl)) ?_; (with_reducible refine (corrieref04_May.calls k a0_0 a0_1 a0_2 a0_3 a0_4 t142 _ A4.out).mono ?_); rintro e w15 ⟨rfl, hb⟩; refine ⟨_, rfl, ?_⟩; have n0_ := Aside0.mk (blk_below (g := gb141) (o := .cells #[.int .i64 a0_0, .int .i64 a0_1, .int .i64 a0_2, .int .i64 a0_3, .int .i64 a0_4] 23 (0, 0)) (by (with_reducible repeat (first | refine blk_drewN ?_ _ | refine blk_drew ?_ | refine blk_alloc ?_ _)); exact BK141.out) hb); have n1_ := Aside0.mk (below_step (by repeat (first | (with_reducible first | exact HB.out | apply below_alloc | apply pw_below_drewN | apply below_drew1 | refine below_set ?_ GE141.out) | exact HB.out)) hb); clear BK141; clear HB; have BK141 := n0_; have HB := n1_; clear n0_ n1_; (try clear hb); (try clear hb2); (try clear hk); (try clear hi)))
  go_ret
  exact ⟨by first | rfl | (simp [errW_none, errW_some] <;> rfl) | (simp [*, errW_none, errW_some] <;> rfl), by repeat (first | (with_reducible first | exact HB.out | apply below_alloc | apply pw_below_drewN | apply below_drew1 | refine below_set ?_ GE141.out) | exact HB.out)⟩

theorem in_eq (k : Nat) (t b i f c n top : Int) : corrieref05_in.f (k + 1) t b i f c n top = some (decide (Ok t b i f c ∧ 0 ≤ n ∧ n < top)) := by
 unfold corrieref05_in.f
 rw [rmay_eq]
 simp only [Option.bind_some]
 by_cases h : Ok t b i f c
 ·simp only [if_pos h, if_true]
  by_cases g : n ≥ 0
  ·rw [if_pos g]; congr 1; rw [Bool.eq_iff_iff]; simp [h]; omega
  ·rw [if_neg g]; congr 1; symm; rw [decide_eq_false_iff_not]; intro hh; omega
 ·simp only [if_neg h]
  rw [if_neg (by decide)]; congr 1; symm; rw [decide_eq_false_iff_not]; intro hh; exact h hh.1

/-! ### corrieref05_Next: function 87 -/
def corrieref05_Next.f (k : Nat) (a0_0 : Int) (a0_1 : Int) (a0_2 : Int) (a0_3 : Int) (a0_4 : Int) (a1 : Int) : Option (Int) := (corrieref04_Nodes.f k a0_0 a0_1 a0_2 a0_3 a0_4).bind fun t144 => ((corrieref05_in.f k a0_0 a0_1 a0_2 a0_3 a0_4 a1 t144).bind fun t145 => (if t145 = true then (some a1) else (some (-1))))
theorem corrieref05_Next.mono : ∀ a0 a1 a2 a3 a4 a5 k, LeO (corrieref05_Next.f k a0 a1 a2 a3 a4 a5) (corrieref05_Next.f (k + 1) a0 a1 a2 a3 a4 a5) := by
 intro a0 a1 a2 a3 a4 a5 k
 unfold corrieref05_Next.f
 repeat' first
   | (with_reducible exact corrieref04_Nodes.mono _ _ _ _ _ _)
   | (with_reducible exact corrieref05_in.mono _ _ _ _ _ _ _ _)
   | (with_reducible exact LeO.refl _)
   | (with_reducible exact LeO.none _)
   | (with_reducible refine LeO.ite ?_ ?_)
   | (with_reducible refine LeO.bind ?_ (fun _ => ?_))
   | exact corrieref04_Nodes.mono _ _ _ _ _ _
   | exact corrieref05_in.mono _ _ _ _ _ _ _ _
   | exact LeO.none _
   | refine LeO.ite ?_ ?_
   | refine LeO.bind ?_ (fun _ => ?_)
set_option maxHeartbeats 8000000 in
set_option maxRecDepth 100000 in
theorem corrieref05_Next.calls (k : Nat) (a0_0 : Int) (a0_1 : Int) (a0_2 : Int) (a0_3 : Int) (a0_4 : Int) (a1 : Int) (r : Int) (w : World) (h : corrieref05_Next.f k a0_0 a0_1 a0_2 a0_3 a0_4 a1 = some r) :
  Calls Try.prog 87 #[.agg #[.int .i64 a0_0, .int .i64 a0_1, .int .i64 a0_2, .int .i64 a0_3, .int .i64 a0_4], .int .i64 a1] w fun e w' => e = .returned (.int .i64 r) ∧ Below w.heap.size w w' := by
 have hu23 := Try.underlying23
 have HB := Aside0.mk (Below.refl w.heap.size w)
 have H : ((corrieref04_Nodes.f k a0_0 a0_1 a0_2 a0_3 a0_4).bind fun t144 => ((corrieref05_in.f k a0_0 a0_1 a0_2 a0_3 a0_4 a1 t144).bind fun t145 => (if t145 = true then (some a1) else (some (-1))))) = some r := h
 clear h
 replace H := Option.bind_eq_some_iff.mp H
 obtain ⟨t144, A30, H⟩ := H
 replace H : ((corrieref05_in.f k a0_0 a0_1 a0_2 a0_3 a0_4 a1 t144).bind fun t145 => (if t145 = true then (some a1) else (some (-1)))) = some r := H
 have A3 := Aside0.mk A30
 clear A30
 replace H := Option.bind_eq_some_iff.mp H
 obtain ⟨t145, A40, H⟩ := H
 replace H : (if t145 = true then (some a1) else (some (-1))) = some r := H
 have A4 := Aside0.mk A40
 clear A40
 by_cases c5 : t145 = true
 ·subst c5
  have H1 : (some a1) = some r := by rw [if_pos rfl] at H; exact H
  clear H
  have H := H1
  clear H1
  obtain rfl := Option.some.inj H
  go_enter Try.func87, Try.ntmps87
  try go_wp2_with (first | ((with_reducible refine gate_dst (N := 2) rfl ?_); refine box_event ?hg (N := 2) ?hd (cs := #[.int .i64 a0_0, .int .i64 a0_1, .int .i64 a0_2, .int .i64 a0_3, .int .i64 a0_4]) (t := 23) ?hr ?_; (case hd => rfl); (case hg => rfl); (case hr => first | (go_simp; done) | (go_simp; rfl)); intro gb143 hg w6 hbox hb; have n0_ := Aside0.mk (below_step (by repeat (first | (with_reducible first | exact HB.out | apply below_alloc | apply pw_below_drewN | apply below_drew1) | exact HB.out)) hb); have n1_ := Aside0.mk (hbox); have n2_ := Aside0.mk ((by rw [hg]; exact (below_size (by repeat (first | (with_reducible first | exact HB.out | apply below_alloc | apply pw_below_drewN | apply below_drew1) | exact HB.out))) : w.heap.size ≤ gb143)); have n3_ := Aside0.mk ((by rw [hg]; exact (below_size (by repeat (first | (with_reducible first | exact HB.out | apply below_alloc | apply pw_below_drewN | apply below_drew1) | exact HB.out))) : w.heap.size ≤ gb143)); clear HB; have HB := n0_; have BK143 := n1_; have GW143 := n2_; have GE143 := n3_; clear n0_ n1_ n2_ n3_; clear hb hbox hg))
  have n0_ := Aside0.mk (blk_drew BK143.out)
  have n1_ := Aside0.mk (below_drew1 HB.out)
  clear BK143
  clear HB
  have BK143 := n0_
  have HB := n1_
  clear n0_ n1_
  refine start_ (n := 5) (S := fun w' => w'.cell? ⟨gb143, 0, none⟩ = some (.int .i64 a0_0) ∧ w'.cell? ⟨gb143, 1, none⟩ = some (.int .i64 a0_1) ∧ w'.cell? ⟨gb143, 2, none⟩ = some (.int .i64 a0_2) ∧ w'.cell? ⟨gb143, 3, none⟩ = some (.int .i64 a0_3) ∧ w'.cell? ⟨gb143, 4, none⟩ = some (.int .i64 a0_4)) (ds := []) #[false, false, false, false, false] (by kernel_rfl) rfl rfl ⟨(blk_cell BK143.out 0).trans rfl, (blk_cell BK143.out 1).trans rfl, (blk_cell BK143.out 2).trans rfl, (blk_cell BK143.out 3).trans rfl, (blk_cell BK143.out 4).trans rfl⟩ (fun hHeld => ?_)
  generalize w6.drew = w7 at BK143 HB hHeld ⊢
  refine pure_ (i := 1) (N := some 6) (v := ?_) (a' := ?_) #[false, true, false, false, false] rfl rfl (by kernel_rfl) (fun _ _ _ h => h) (Or.inl ⟨by rfl, ?_⟩) ?_ ?_
  rotate_left
  ·intro w'
   go_simp
   with_reducible rfl
  rotate_left
  ·simp only [Act.put, List.setIfInBounds_toArray, List.set_cons_zero, List.set_cons_succ, i64_w, i32_w]
   rfl
  refine take_ (i := 0) (N := some 5) (v := ?_) (a' := ?_) #[true, true, false, false, false] rfl rfl (by kernel_rfl) (fun _ _ _ h => h) (Or.inl ⟨by rfl, ?_⟩) hHeld ?_ ?_
  rotate_left
  ·rintro w' ⟨s0, s1, s2, s3, s4⟩
   go_simp
   with_reducible rfl
  rotate_left
  ·simp only [Act.put, List.setIfInBounds_toArray, List.set_cons_zero, List.set_cons_succ, i64_w, i32_w]
   rfl
  refine take_ (i := 2) (N := some 7) (v := ?_) (a' := ?_) #[true, true, true, false, false] rfl rfl (by kernel_rfl) (fun _ _ _ h => h) (Or.inl ⟨by rfl, ?_⟩) hHeld ?_ ?_
  rotate_left
  ·rintro w' ⟨s0, s1, s2, s3, s4⟩
   go_simp
   with_reducible rfl
  rotate_left
  ·simp only [Act.put, List.setIfInBounds_toArray, List.set_cons_zero, List.set_cons_succ, i64_w, i32_w]
   rfl
  refine one_ (i := 3) (N := some 8) #[true, true, true, true, false] rfl rfl (by kernel_rfl) (by decide) (fun K hK => ?_)
  refine goes_ Try.func12 (by kernel_rfl) rfl #[.agg #[.int .i64 a0_0, .int .i64 a0_1, .int .i64 a0_2, .int .i64 a0_3, .int .i64 a0_4]] (by rfl) rfl rfl (by (try simp only [List.map_toArray, List.map_cons, List.map_nil]); first | done | rfl | (simp only [List.length_drop, List.length_take]; rfl)) ?_
  with_reducible refine (corrieref04_Nodes.calls k a0_0 a0_1 a0_2 a0_3 a0_4 t144 _ A3.out).mono ?_
  rintro e w8 ⟨rfl, hb⟩
  refine ⟨_, rfl, ?_⟩
  have n0_ := Aside0.mk (blk_below (g := gb143) (o := .cells #[.int .i64 a0_0, .int .i64 a0_1, .int .i64 a0_2, .int .i64 a0_3, .int .i64 a0_4] 23 (0, 0)) (by (with_reducible repeat (first | refine blk_drewN ?_ _ | refine blk_drew ?_ | refine blk_alloc ?_ _)); exact BK143.out) hb)
  have n1_ := Aside0.mk (below_step (by repeat (first | (with_reducible first | exact HB.out | apply below_alloc | apply pw_below_drewN | apply below_drew1 | refine below_set ?_ GE143.out) | exact HB.out)) hb)
  clear BK143
  clear HB
  have BK143 := n0_
  have HB := n1_
  clear n0_ n1_
  (try clear hb)
  (try clear hb2)
  (try clear hk)
  (try clear hi)
  refine hK.out _ _ ⟨(blk_cell BK143.out 0).trans rfl, (blk_cell BK143.out 1).trans rfl, (blk_cell BK143.out 2).trans rfl, (blk_cell BK143.out 3).trans rfl, (blk_cell BK143.out 4).trans rfl⟩ (fun hHeld => ?_)
  clear hK K
  refine norm_ (a' := ?_) ?_ ?_
  rotate_left
  ·show Act.put _ (some 8) _ = _
   simp only [Act.put, List.setIfInBounds_toArray, List.set_cons_zero, List.set_cons_succ, i64_w, i32_w]
   rfl
  refine one_ (i := 4) (N := some 9) #[true, true, true, true, true] rfl rfl (by kernel_rfl) (by decide) (fun K hK => ?_)
  refine goes_ Try.func85 (by kernel_rfl) rfl #[.agg #[.int .i64 a0_0, .int .i64 a0_1, .int .i64 a0_2, .int .i64 a0_3, .int .i64 a0_4], .int .i64 a1, .int .i64 t144] (by rfl) rfl rfl (by (try simp only [List.map_toArray, List.map_cons, List.map_nil]); first | done | rfl | (simp only [List.length_drop, List.length_take]; rfl)) ?_
  with_reducible refine (corrieref05_in.calls k a0_0 a0_1 a0_2 a0_3 a0_4 a1 t144 true _ A4.out).mono ?_
  rintro e w9 ⟨rfl, hb⟩
  refine ⟨_, rfl, ?_⟩
  have n0_ := Aside0.mk (blk_below (g := gb143) (o := .cells #[.int .i64 a0_0, .int .i64 a0_1, .int .i64 a0_2, .int .i64 a0_3, .int .i64 a0_4] 23 (0, 0)) (by (with_reducible repeat (first | refine blk_drewN ?_ _ | refine blk_drew ?_ | refine blk_alloc ?_ _)); exact BK143.out) hb)
  have n1_ := Aside0.mk (below_step (by repeat (first | (with_reducible first | exact HB.out | apply below_alloc | apply pw_below_drewN | apply below_drew1 | refine below_set ?_ GE143.out) | exact HB.out)) hb)
  clear BK143
  clear HB
  have BK143 := n0_
  have HB := n1_
  clear n0_ n1_
  (try clear hb)
  (try clear hb2)
  (try clear hk)
  (try clear hi)
  refine hK.out _ _ ⟨(blk_cell BK143.out 0).trans rfl, (blk_cell BK143.out 1).trans rfl, (blk_cell BK143.out 2).trans rfl, (blk_cell BK143.out 3).trans rfl, (blk_cell BK143.out 4).trans rfl⟩ (fun hHeld => ?_)
  clear hK K
  refine norm_ (a' := ?_) ?_ ?_
  rotate_left
  ·show Act.put _ (some 9) _ = _
   simp only [Act.put, List.setIfInBounds_toArray, List.set_cons_zero, List.set_cons_succ, i64_w, i32_w]
   rfl
  refine done_ (by kernel_rfl) ?_
  try go_wp2
  go_ret
  exact ⟨by first | rfl | (simp [errW_none, errW_some] <;> rfl) | (simp [*, errW_none, errW_some] <;> rfl), by repeat (first | (with_reducible first | exact HB.out | apply below_alloc | apply pw_below_drewN | apply below_drew1 | refine below_set ?_ GE143.out) | exact HB.out)⟩
 ·replace c5 := Bool.eq_false_iff.mpr c5
  subst c5
  have H1 : (some (-1)) = some r := by rw [if_neg (show ¬ (false = true) by decide)] at H; exact H
  clear H
  have H := H1
  clear H1
  obtain rfl := Option.some.inj H
  go_enter Try.func87, Try.ntmps87
  try go_wp2_with (first | ((with_reducible refine gate_dst (N := 2) rfl ?_); refine box_event ?hg (N := 2) ?hd (cs := #[.int .i64 a0_0, .int .i64 a0_1, .int .i64 a0_2, .int .i64 a0_3, .int .i64 a0_4]) (t := 23) ?hr ?_; (case hd => rfl); (case hg => rfl); (case hr => first | (go_simp; done) | (go_simp; rfl)); intro gb143 hg w10 hbox hb; have n0_ := Aside0.mk (below_step (by repeat (first | (with_reducible first | exact HB.out | apply below_alloc | apply pw_below_drewN | apply below_drew1) | exact HB.out)) hb); have n1_ := Aside0.mk (hbox); have n2_ := Aside0.mk ((by rw [hg]; exact (below_size (by repeat (first | (with_reducible first | exact HB.out | apply below_alloc | apply pw_below_drewN | apply below_drew1) | exact HB.out))) : w.heap.size ≤ gb143)); have n3_ := Aside0.mk ((by rw [hg]; exact (below_size (by repeat (first | (with_reducible first | exact HB.out | apply below_alloc | apply pw_below_drewN | apply below_drew1) | exact HB.out))) : w.heap.size ≤ gb143)); clear HB; have HB := n0_; have BK143 := n1_; have GW143 := n2_; have GE143 := n3_; clear n0_ n1_ n2_ n3_; clear hb hbox hg))
  have n0_ := Aside0.mk (blk_drew BK143.out)
  have n1_ := Aside0.mk (below_drew1 HB.out)
  clear BK143
  clear HB
  have BK143 := n0_
  have HB := n1_
  clear n0_ n1_
  refine start_ (n := 5) (S := fun w' => w'.cell? ⟨gb143, 0, none⟩ = some (.int .i64 a0_0) ∧ w'.cell? ⟨gb143, 1, none⟩ = some (.int .i64 a0_1) ∧ w'.cell? ⟨gb143, 2, none⟩ = some (.int .i64 a0_2) ∧ w'.cell? ⟨gb143, 3, none⟩ = some (.int .i64 a0_3) ∧ w'.cell? ⟨gb143, 4, none⟩ = some (.int .i64 a0_4)) (ds := []) #[false, false, false, false, false] (by kernel_rfl) rfl rfl ⟨(blk_cell BK143.out 0).trans rfl, (blk_cell BK143.out 1).trans rfl, (blk_cell BK143.out 2).trans rfl, (blk_cell BK143.out 3).trans rfl, (blk_cell BK143.out 4).trans rfl⟩ (fun hHeld => ?_)
  generalize w10.drew = w11 at BK143 HB hHeld ⊢
  refine pure_ (i := 1) (N := some 6) (v := ?_) (a' := ?_) #[false, true, false, false, false] rfl rfl (by kernel_rfl) (fun _ _ _ h => h) (Or.inl ⟨by rfl, ?_⟩) ?_ ?_
  rotate_left
  ·intro w'
   go_simp
   with_reducible rfl
  rotate_left
  ·simp only [Act.put, List.setIfInBounds_toArray, List.set_cons_zero, List.set_cons_succ, i64_w, i32_w]
   rfl
  refine take_ (i := 0) (N := some 5) (v := ?_) (a' := ?_) #[true, true, false, false, false] rfl rfl (by kernel_rfl) (fun _ _ _ h => h) (Or.inl ⟨by rfl, ?_⟩) hHeld ?_ ?_
  rotate_left
  ·rintro w' ⟨s0, s1, s2, s3, s4⟩
   go_simp
   with_reducible rfl
  rotate_left
  ·simp only [Act.put, List.setIfInBounds_toArray, List.set_cons_zero, List.set_cons_succ, i64_w, i32_w]
   rfl
  refine take_ (i := 2) (N := some 7) (v := ?_) (a' := ?_) #[true, true, true, false, false] rfl rfl (by kernel_rfl) (fun _ _ _ h => h) (Or.inl ⟨by rfl, ?_⟩) hHeld ?_ ?_
  rotate_left
  ·rintro w' ⟨s0, s1, s2, s3, s4⟩
   go_simp
   with_reducible rfl
  rotate_left
  ·simp only [Act.put, List.setIfInBounds_toArray, List.set_cons_zero, List.set_cons_succ, i64_w, i32_w]
   rfl
  refine one_ (i := 3) (N := some 8) #[true, true, true, true, false] rfl rfl (by kernel_rfl) (by decide) (fun K hK => ?_)
  refine goes_ Try.func12 (by kernel_rfl) rfl #[.agg #[.int .i64 a0_0, .int .i64 a0_1, .int .i64 a0_2, .int .i64 a0_3, .int .i64 a0_4]] (by rfl) rfl rfl (by (try simp only [List.map_toArray, List.map_cons, List.map_nil]); first | done | rfl | (simp only [List.length_drop, List.length_take]; rfl)) ?_
  with_reducible refine (corrieref04_Nodes.calls k a0_0 a0_1 a0_2 a0_3 a0_4 t144 _ A3.out).mono ?_
  rintro e w12 ⟨rfl, hb⟩
  refine ⟨_, rfl, ?_⟩
  have n0_ := Aside0.mk (blk_below (g := gb143) (o := .cells #[.int .i64 a0_0, .int .i64 a0_1, .int .i64 a0_2, .int .i64 a0_3, .int .i64 a0_4] 23 (0, 0)) (by (with_reducible repeat (first | refine blk_drewN ?_ _ | refine blk_drew ?_ | refine blk_alloc ?_ _)); exact BK143.out) hb)
  have n1_ := Aside0.mk (below_step (by repeat (first | (with_reducible first | exact HB.out | apply below_alloc | apply pw_below_drewN | apply below_drew1 | refine below_set ?_ GE143.out) | exact HB.out)) hb)
  clear BK143
  clear HB
  have BK143 := n0_
  have HB := n1_
  clear n0_ n1_
  (try clear hb)
  (try clear hb2)
  (try clear hk)
  (try clear hi)
  refine hK.out _ _ ⟨(blk_cell BK143.out 0).trans rfl, (blk_cell BK143.out 1).trans rfl, (blk_cell BK143.out 2).trans rfl, (blk_cell BK143.out 3).trans rfl, (blk_cell BK143.out 4).trans rfl⟩ (fun hHeld => ?_)
  clear hK K
  refine norm_ (a' := ?_) ?_ ?_
  rotate_left
  ·show Act.put _ (some 8) _ = _
   simp only [Act.put, List.setIfInBounds_toArray, List.set_cons_zero, List.set_cons_succ, i64_w, i32_w]
   rfl
  refine one_ (i := 4) (N := some 9) #[true, true, true, true, true] rfl rfl (by kernel_rfl) (by decide) (fun K hK => ?_)
  refine goes_ Try.func85 (by kernel_rfl) rfl #[.agg #[.int .i64 a0_0, .int .i64 a0_1, .int .i64 a0_2, .int .i64 a0_3, .int .i64 a0_4], .int .i64 a1, .int .i64 t144] (by rfl) rfl rfl (by (try simp only [List.map_toArray, List.map_cons, List.map_nil]); first | done | rfl | (simp only [List.length_drop, List.length_take]; rfl)) ?_
  with_reducible refine (corrieref05_in.calls k a0_0 a0_1 a0_2 a0_3 a0_4 a1 t144 false _ A4.out).mono ?_
  rintro e w13 ⟨rfl, hb⟩
  refine ⟨_, rfl, ?_⟩
  have n0_ := Aside0.mk (blk_below (g := gb143) (o := .cells #[.int .i64 a0_0, .int .i64 a0_1, .int .i64 a0_2, .int .i64 a0_3, .int .i64 a0_4] 23 (0, 0)) (by (with_reducible repeat (first | refine blk_drewN ?_ _ | refine blk_drew ?_ | refine blk_alloc ?_ _)); exact BK143.out) hb)
  have n1_ := Aside0.mk (below_step (by repeat (first | (with_reducible first | exact HB.out | apply below_alloc | apply pw_below_drewN | apply below_drew1 | refine below_set ?_ GE143.out) | exact HB.out)) hb)
  clear BK143
  clear HB
  have BK143 := n0_
  have HB := n1_
  clear n0_ n1_
  (try clear hb)
  (try clear hb2)
  (try clear hk)
  (try clear hi)
  refine hK.out _ _ ⟨(blk_cell BK143.out 0).trans rfl, (blk_cell BK143.out 1).trans rfl, (blk_cell BK143.out 2).trans rfl, (blk_cell BK143.out 3).trans rfl, (blk_cell BK143.out 4).trans rfl⟩ (fun hHeld => ?_)
  clear hK K
  refine norm_ (a' := ?_) ?_ ?_
  rotate_left
  ·show Act.put _ (some 9) _ = _
   simp only [Act.put, List.setIfInBounds_toArray, List.set_cons_zero, List.set_cons_succ, i64_w, i32_w]
   rfl
  refine done_ (by kernel_rfl) ?_
  try go_wp2
  go_ret
  exact ⟨by first | rfl | (simp [errW_none, errW_some] <;> rfl) | (simp [*, errW_none, errW_some] <;> rfl), by repeat (first | (with_reducible first | exact HB.out | apply below_alloc | apply pw_below_drewN | apply below_drew1 | refine below_set ?_ GE143.out) | exact HB.out)⟩

theorem rnext_eq (k : Nat) (t b i f c n : Int) : corrieref05_Next.f (k + 1) t b i f c n = some (if Ok t b i f c ∧ 0 ≤ n ∧ n < 1 + b + 2 * (t * c) then n else -1) := by
 unfold corrieref05_Next.f
 rw [rnodes_eq]
 simp only [Option.bind_some, in_eq]
 by_cases h : Ok t b i f c
 ·simp only [if_pos h]
  simp only [h, true_and, decide_eq_true_eq]
  split <;> rfl
 ·simp only [h, false_and, if_false, decide_false, Bool.false_eq_true]

/-! ### corrieref08_Next: function 56 (by hand) -/
def d8_Next_lb (n m : Nat) : Array Bool := ((List.range n).map (fun i => m.testBit i)).toArray
def d8_Next.T1 : Bool × List (List Nat × List Nat) := (true, [([], []), ([], []), ([1], [1]), ([], []), ([2, 3], [2, 3]), ([0, 4, 4], [0, 4]), ([5], [5]), ([5], [5]), ([6, 5, 0, 1, 2, 3, 4, 5, 6, 7], [6]), ([7, 8, 0, 1, 2, 3, 4, 5, 6, 7, 8], [7])])
def d8_Next.B1 : List Nat := [0, 0, 2, 0, 14, 31, 63, 63, 255, 511]
theorem d8_Next.tab1 : rtab .any (opsOf Try.f56 1) = d8_Next.T1 := by kernel_rfl
theorem d8_Next.bits1 : waitsOk d8_Next.T1.2 d8_Next.B1 = true := by kernel_rfl
set_option maxHeartbeats 8000000 in
set_option maxRecDepth 100000 in
theorem d8_Next (w0 W : World) (c : S23) (t : Nat) (q : R8) (A : Option Addr) (C : Nat) (ws : List Int) (st n x : Int) (hB : Below w0.heap.size w0 W) (hR : RU w0 W A C ws) (hx : ∀ W : World, Calls Try.prog 87 #[.agg #[.int .i64 c.f0, .int .i64 c.f1, .int .i64 c.f2, .int .i64 c.f3, .int .i64 c.f4], .int .i64 n] W (fun e w' => e = .returned (.int .i64 x) ∧ Below W.heap.size W w')) :
  Calls Try.prog 56 #[.agg #[.int .i64 c.f0, .int .i64 c.f1, .int .i64 c.f2, .int .i64 c.f3, .int .i64 c.f4, .slice A ws.length C, .int .i64 st, .int .i64 c.f0, .int .i64 c.f1, .int .i64 c.f2, .int .i64 c.f3, .int .i64 c.f4, .slice q.a5 t q.c5, .slice q.a6 t q.c6, .slice q.a7 t q.c7, .slice q.a8 0 q.c8, .slice q.a9 0 q.c9], .int .i64 n] W fun e w' => ∃ (A' : Option Addr) (C' : Nat), e = .returned (.tuple #[.agg #[.int .i64 c.f0, .int .i64 c.f1, .int .i64 c.f2, .int .i64 c.f3, .int .i64 c.f4, .slice A' ws.length C', .int .i64 (cSt ws st x), .int .i64 c.f0, .int .i64 c.f1, .int .i64 c.f2, .int .i64 c.f3, .int .i64 c.f4, .slice q.a5 t q.c5, .slice q.a6 t q.c6, .slice q.a7 t q.c7, .slice q.a8 0 q.c8, .slice q.a9 0 q.c9], .int .u64 (cRd ws x)]) ∧ RU w0 w' A' C' ws ∧ T25 W w' ∧ Below w0.heap.size w0 w' := by
 have HR := Aside0.mk hR
 have HB := Aside0.mk hB
 have HB0 := Aside0.mk hB.size
 have HT := Aside0.mk (T25.refl W)
 clear hR hB
 go_enter Try.func56, Try.ntmps56
 go_upto_region 1 with (first | ((with_reducible refine gate_dst (N := 2) rfl ?_); refine box_event ?hg21 (N := 2) ?hd21 (cs := #[.int .i64 c.f0, .int .i64 c.f1, .int .i64 c.f2, .int .i64 c.f3, .int .i64 c.f4, .slice A ws.length C, .int .i64 st, .int .i64 c.f0, .int .i64 c.f1, .int .i64 c.f2, .int .i64 c.f3, .int .i64 c.f4, .slice q.a5 t q.c5, .slice q.a6 t q.c6, .slice q.a7 t q.c7, .slice q.a8 0 q.c8, .slice q.a9 0 q.c9]) (t := 60) ?hr21 ?_; (case hd21 => rfl); (case hg21 => rfl); (case hr21 => first | (go_simp; done) | (go_simp; rfl)); intro g1 hg w1_ hbox hbk; have HGB1 := Aside0.mk (show W.heap.size ≤ g1 from by rw [hg]; have := HT.out.size; omega); have n_HR := Aside0.mk (HR.out.below hbk); have n_HT := Aside0.mk (HT.out.below hbk); have n_HB := Aside0.mk (below_step HB.out hbk); clear HR HT HB; have HR := n_HR; have HT := n_HT; have HB := n_HB; clear n_HR n_HT n_HB; have B1 := Aside0.mk hbox; clear hbk hbox hg) | ((with_reducible refine gate_dst (N := 4) rfl ?_); refine box_event ?hg22 (N := 4) ?hd22 (cs := #[.int .i64 0, .int .i64 0, .int .i64 0, .int .i64 0, .int .i64 0, .slice none 0 0, .int .i64 0, .int .i64 0, .int .i64 0, .int .i64 0, .int .i64 0, .int .i64 0, .slice none 0 0, .slice none 0 0, .slice none 0 0, .slice none 0 0, .slice none 0 0]) (t := 60) ?hr22 ?_; (case hd22 => rfl); (case hg22 => rfl); (case hr22 => first | (go_simp; done) | (go_simp; rfl)); intro g2 hg w2_ hbox hbk; have HGB2 := Aside0.mk (show g1 ≠ g2 ∧ W.heap.size ≤ g2 from by rw [hg]; have := blk_lt B1.out; have := HT.out.size; omega); have n_HR := Aside0.mk (HR.out.below hbk); have n_HT := Aside0.mk (HT.out.below hbk); have n_HB := Aside0.mk (below_step HB.out hbk); have n_B1 := Aside0.mk (blk_below B1.out hbk); clear HR HT HB B1; have HR := n_HR; have HT := n_HT; have HB := n_HB; have B1 := n_B1; clear n_HR n_HT n_HB n_B1; have B2 := Aside0.mk hbox; clear hbk hbox hg))
 obtain ⟨XB1, hXB1, hb_B1⟩ := wq_name B1.out
 clear B1
 have B1 := Aside0.mk hb_B1
 have HXB1 := Aside0.mk hXB1
 clear hXB1 hb_B1
 have n_HR := Aside0.mk (HR.out.drew)
 have n_HT := Aside0.mk (HT.out.drew)
 have n_HB := Aside0.mk (below_drew1 HB.out)
 have n_B1 := Aside0.mk (blk_drew B1.out)
 have n_B2 := Aside0.mk (blk_drew B2.out)
 clear HR HT HB B1 B2
 have HR := n_HR
 have HT := n_HT
 have HB := n_HB
 have B1 := n_B1
 have B2 := n_B2
 clear n_HR n_HT n_HB n_B1 n_B2
 refine start_ (n := 10) (S := fun w' => w'.heap[g1]? = some (.cells XB1 60 (0, 0))) (ds := [8]) #[false, false, false, false, false, false, false, false, false, false] (by kernel_rfl) rfl rfl (B1.out) (fun hHeld => ?_); refine with_tabW d8_Next.tab1 d8_Next.bits1 (fun HT_ HW_ => ?_)
 generalize w2_.drew = v3_ at HR HT HB B1 B2 hHeld ⊢
 refine pure_ (i := 1) (N := some 7) (v := ?_) (a' := ?_) (d8_Next_lb 10 2) rfl rfl (any_of HT_.out (by kernel_rfl)) (fun _ _ _ h => h) (Or.inl ⟨by rfl, ?_⟩) ?_ ?_; rotate_left
 ·intro w'; go_simp; with_reducible rfl
 rotate_left
 ·simp only [Act.put, List.setIfInBounds_toArray, List.set_cons_zero, List.set_cons_succ, i64_w, i32_w]; rfl
 refine pure_ (i := 3) (N := some 9) (v := ?_) (a' := ?_) (d8_Next_lb 10 10) rfl rfl (any_of HT_.out (by kernel_rfl)) (fun _ _ _ h => h) (Or.inl ⟨by rfl, ?_⟩) ?_ ?_; rotate_left
 ·intro w'; go_simp; with_reducible rfl
 rotate_left
 ·simp only [Act.put, List.setIfInBounds_toArray, List.set_cons_zero, List.set_cons_succ, i64_w, i32_w]; rfl
 refine take_ (i := 0) (N := some 6) (v := ?_) (a' := ?_) (d8_Next_lb 10 11) rfl rfl (take_ofW HT_.out HW_.out (by kernel_rfl)) (fun _ _ _ h => h) (Or.inl ⟨by rfl, ?_⟩) hHeld ?_ ?_; rotate_left
 ·intro w' s0; refine Eq.trans (wq_run_loadA (ty := 60) (p := .tmp 2) (g := g1) (i := 0) (k := 17) (vs := ?vs26) ?ho26 ?hp26 Try.underlying60 ?hd26 ?hi26 s0 ?hv26 ?hk26) ?fin26; (case hd26 => rfl); (case hi26 => kernel_rfl); (case ho26 => rfl); (case hp26 => rfl); (case hv26 => rewrite [HXB1.out]; simp only [List.drop_succ_cons, List.drop_zero, List.take_succ_cons, List.take_zero, List.take_nil, List.drop_nil]; with_reducible rfl); (case hk26 => rfl); (case fin26 => with_reducible rfl)
 rotate_left
 ·simp only [Act.put, List.setIfInBounds_toArray, List.set_cons_zero, List.set_cons_succ, i64_w, i32_w]; rfl
 refine take_ (i := 2) (N := some 8) (v := ?_) (a' := ?_) (d8_Next_lb 10 15) rfl rfl (take_ofW HT_.out HW_.out (by kernel_rfl)) (fun _ _ _ h => h) (Or.inl ⟨by rfl, ?_⟩) hHeld ?_ ?_; rotate_left
 ·intro w' s0; refine Eq.trans (wq_run_loadA (ty := 23) (p := .tmp 7) (g := g1) (i := 0) (k := 5) (vs := ?vs27) ?ho27 ?hp27 Try.underlying23 ?hd27 ?hi27 s0 ?hv27 ?hk27) ?fin27; (case hd27 => rfl); (case hi27 => kernel_rfl); (case ho27 => rfl); (case hp27 => rfl); (case hv27 => rewrite [HXB1.out]; simp only [List.drop_succ_cons, List.drop_zero, List.take_succ_cons, List.take_zero, List.take_nil, List.drop_nil]; with_reducible rfl); (case hk27 => rfl); (case fin27 => with_reducible rfl)
 rotate_left
 ·simp only [Act.put, List.setIfInBounds_toArray, List.set_cons_zero, List.set_cons_succ, i64_w, i32_w]; rfl
 refine one_ (i := 4) (N := some 10) (d8_Next_lb 10 31) rfl rfl (one_of HT_.out (by kernel_rfl)) (by decide) (fun K hK => ?_)
 refine goes_ Try.func87 (by kernel_rfl) rfl ?args23 ?hw23 rfl rfl ?hargs23 ?_
 case hw23 => rfl
 case hargs23 => go_simp; with_reducible rfl
 with_reducible refine (hx _).mono ?_
 rintro e u4_ ⟨rfl, hbk⟩
 refine ⟨_, rfl, ?_⟩
 have n_HR := Aside0.mk (HR.out.below hbk)
 have n_HT := Aside0.mk (HT.out.below hbk)
 have n_HB := Aside0.mk (below_step HB.out hbk)
 have n_B1 := Aside0.mk (blk_below B1.out hbk)
 have n_B2 := Aside0.mk (blk_below B2.out hbk)
 clear HR HT HB B1 B2
 have HR := n_HR
 have HT := n_HT
 have HB := n_HB
 have B1 := n_B1
 have B2 := n_B2
 clear n_HR n_HT n_HB n_B1 n_B2
 clear hbk
 refine hK.out _ _ (B1.out) (fun hHeld => ?_)
 clear hK K
 refine norm_ (a' := ?_) ?_ ?_
 rotate_left
 ·show Act.put _ (some 10) _ = _
  simp only [Act.put, List.setIfInBounds_toArray, List.set_cons_zero, List.set_cons_succ, i64_w, i32_w]
  rfl
 refine one_ (i := 5) (N := some 11) (d8_Next_lb 10 63) rfl rfl (one_of HT_.out (by kernel_rfl)) (by decide) (fun K hK => ?_)
 refine goes_ Try.func86 (by kernel_rfl) rfl ?args24 ?hw24 rfl rfl ?hargs24 ?_
 case hw24 => rfl
 case hargs24 => go_simp; with_reducible rfl
 with_reducible refine (d8_load w0 _ c t q _ _ _ _ _ HB.out HR.out).mono ?_
 rintro e u5_ ⟨A1, C1, rfl, hR, hT, hb⟩
 refine ⟨_, rfl, ?_⟩
 have n_HR := Aside0.mk hR
 have n_HT := Aside0.mk (HT.out.trans hT)
 have n_HB := Aside0.mk hb
 have n_B1 := Aside0.mk (blk_t25 B1.out hT (by decide))
 have n_B2 := Aside0.mk (blk_t25 B2.out hT (by decide))
 clear HR HT HB B1 B2 hR hT hb
 have HR := n_HR
 have HT := n_HT
 have HB := n_HB
 have B1 := n_B1
 have B2 := n_B2
 clear n_HR n_HT n_HB n_B1 n_B2
 refine hK.out _ _ (B1.out) (fun hHeld => ?_)
 clear hK K
 refine norm_ (a' := ?_) ?_ ?_
 rotate_left
 ·show Act.put _ (some 11) _ = _
  simp only [Act.put, List.setIfInBounds_toArray, List.set_cons_zero, List.set_cons_succ, i64_w, i32_w]
  rfl
 refine pure_ (i := 6) (N := some 12) (v := ?_) (a' := ?_) (d8_Next_lb 10 127) rfl rfl (any_of HT_.out (by kernel_rfl)) (fun _ _ _ h => h) (Or.inl ⟨by rfl, ?_⟩) ?_ ?_; rotate_left
 ·intro w'; go_simp; with_reducible rfl
 rotate_left
 ·simp only [Act.put, List.setIfInBounds_toArray, List.set_cons_zero, List.set_cons_succ, i64_w, i32_w]; rfl
 refine pure_ (i := 7) (N := some 13) (v := ?_) (a' := ?_) (d8_Next_lb 10 255) rfl rfl (any_of HT_.out (by kernel_rfl)) (fun _ _ _ h => h) (Or.inl ⟨by rfl, ?_⟩) ?_ ?_; rotate_left
 ·intro w'; go_simp; with_reducible rfl
 rotate_left
 ·simp only [Act.put, List.setIfInBounds_toArray, List.set_cons_zero, List.set_cons_succ, i64_w, i32_w]; rfl
 refine last_ (i := 8) (N := none) (d8_Next_lb 10 511) rfl rfl (one_of HT_.out (by kernel_rfl)) (by decide) (fun K hK => ?_)
 refine wq_skip (ty := 60) (p := .tmp 4) (x := .tmp 12) (g := g2) (i := 0) (k := 17) (v := ?v25) (vs := ?vs25) (cs' := ?cs25) ?hw25 ?hN25 ?ho25 ?hp25 ?hx25 ?hvc25 ?hi25 ?hk25 ?h125 B2.out ?hsz25 ?hcs25 ?_
 case hi25 => kernel_rfl
 case hw25 => rfl
 case hN25 => rfl
 case ho25 => rfl
 case hp25 => rfl
 case hx25 => go_simp; with_reducible rfl
 case hvc25 => simp only [Value.cells]; with_reducible rfl
 case hk25 => rfl
 case h125 => rfl
 case hsz25 => exact Nat.le_of_ble_eq_true rfl
 case hcs25 => simp only [wqPut, List.setIfInBounds_toArray, List.set_cons_succ, List.set_cons_zero, Nat.reduceAdd]; with_reducible rfl
 intro w6_ hb hgr
 have n_HR := Aside0.mk (HR.out.grown B2.out (by decide) hgr)
 have n_HT := Aside0.mk (HT.out.grown hgr HGB2.out.2)
 have n_HB := Aside0.mk (HB.out.grown hgr HB.out.size (fun k hk => by cases hk; exact Nat.le_trans HB0.out HGB2.out.2))
 have n_B1 := Aside0.mk (wq_blk B1.out hgr HGB2.out.1)
 have n_B2 := Aside0.mk hb
 clear HR HT HB B1 B2 hb hgr
 have HR := n_HR
 have HT := n_HT
 have HB := n_HB
 have B1 := n_B1
 have B2 := n_B2
 clear n_HR n_HT n_HB n_B1 n_B2
 refine hK.out _ _ ?_
 clear hK K
 refine pure_ (i := 9) (N := some 5) (v := ?_) (a' := ?_) (d8_Next_lb 10 1023) rfl rfl (any_of HT_.out (by kernel_rfl)) (fun _ _ _ h => h) (Or.inl ⟨by rfl, ?_⟩) ?_ ?_; rotate_left
 ·intro w'; go_simp; with_reducible rfl
 rotate_left
 ·simp only [Act.put, List.setIfInBounds_toArray, List.set_cons_zero, List.set_cons_succ, i64_w, i32_w]; rfl
 refine done_ (done_of HT_.out (by kernel_rfl)) ?_
 have hX := HXB1.out
 subst hX
 clear HXB1
 go_wp2
 refine bodyPost_ret (res_ct rfl _ _ _ _ _ _ _ rfl B2.out Try.underlying60 rfl (by kernel_rfl)) rfl ?_
 exact ⟨A1, C1, rfl, HR.out, HT.out, HB.out⟩


end Go.Proofs.Ytpcmoclohepdiag.PWorldActs
