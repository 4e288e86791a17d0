-- Written by a program of this session: a variant of the print that takes proofs by hand (wip/tools/mkprint.py)
import Derived.Test.YtpcmoclohepdiadPHistoryTellsx0
import Derived.Test.YtpcmoclohepdiadPHistoryTellsx3
import Derived.Test.YtpcmoclohepdiadPHistoryTellsx4
import Derived.Test.YtpcmoclohepdiadPHistoryTellsx5
import Derived.Test.YtpcmoclohepdiadPHistoryTellsx6
import Derived.Test.YtpcmoclohepdiadPHistoryTellsx8
import Derived.Test.YtpcmoclohepdiadPHistoryTellsx9
import Derived.Test.YtpcmoclohepdiadPHistoryTellsx10
namespace Go.Proofs.Ytpcmoclohepdiad.PHistoryTells
open Go.RowKit Go.Proofs.YtpcmoclohepdiadW.PrintWords Go.Proofs.YtpcmoclohepdiadW.PrintLast
set_option linter.unusedVariables false
set_option linter.unusedSimpArgs false

/-! ### corrielaw19_HistoryTells: function 3 (by hand) -/
def hte_lb (n m : Nat) : Array Bool := ((List.range n).map (fun i => m.testBit i)).toArray
def corrielaw19_HistoryTells.T4 : Bool × List (List Nat × List Nat) := (true, [([], []), ([0], [0]), ([1], [1]), ([2, 1, 1], [1, 2]), ([1], [1]), ([4, 3, 1], [1, 4]), ([3, 5, 1], [1, 3, 5]), ([1, 6], [1, 6]), ([7, 5], [7]), ([8], [8]), ([9, 8, 8], [8, 9]), ([8], [8]), ([11, 10, 8], [8, 11]), ([10, 12, 12, 8], [8, 10, 12]), ([8, 13], [8, 13]), ([14, 13], [14]), ([15], [15]), ([15], [15]), ([16, 17, 15, 15], [15, 16, 17]), ([15], [15]), ([15], [15]), ([19, 20, 18, 15], [15, 19, 20]), ([18, 21, 15], [15, 18, 21]), ([15, 22], [15, 22]), ([23, 21], [23]), ([24], [24]), ([24], [24]), ([25, 26, 24, 24], [24, 25, 26]), ([24], [24]), ([24], [24]), ([28, 29, 27, 24], [24, 28, 29]), ([27, 30, 24], [24, 27, 30]), ([24, 31], [24, 31]), ([32, 30, 0, 1, 2, 3, 4, 5, 6, 7, 8, 9, 10, 11, 12, 13, 14, 15, 16, 17, 18, 19, 20, 21, 22, 23, 24, 25, 26, 27, 28, 29, 30, 31, 32], [32])])
def corrielaw19_HistoryTells.B4 : List Nat := [0, 1, 3, 7, 3, 31, 63, 127, 255, 511, 1023, 511, 4095, 8191, 16383, 32767, 65535, 65535, 262143, 65535, 65535, 2097151, 4194303, 8388607, 16777215, 33554431, 33554431, 134217727, 33554431, 33554431, 1073741823, 2147483647, 4294967295, 8589934591]
theorem corrielaw19_HistoryTells.tab4 : rtab .any (opsOf Try.f3 4) = corrielaw19_HistoryTells.T4 := by kernel_rfl
theorem corrielaw19_HistoryTells.bits4 : waitsOk corrielaw19_HistoryTells.T4.2 corrielaw19_HistoryTells.B4 = true := by kernel_rfl
def corrielaw19_HistoryTells.g (k : Nat) (l0 : List S31) (a1 : Int) (e : S31) : Option Bool := (corrieref19_Few.f k l0 12).bind fun z => if z = true then (if l0.length ≤ 12 then (history_Valid.f k l0).bind fun v0 => (corrieref19_Valid.f k l0).bind fun v1 => (corrieref19_Same.f k (l0.filter fun x => !history_Points1.f x) (l0.filter fun x => !history_Points1.f x)).bind fun s => (history_Size.f k l0 a1).bind fun n0 => (corrieref19_Size.f k l0 a1).bind fun n1 => (hin_c.l0 e k l0 0 0).bind fun i0 => (corrieref19_Inserts.f k l0 e.f0 e.f1 e.f2 e.f3 e.f4 e.f5.f0 e.f5.f1 e.f5.f2 e.f5.f3 e.f6.f0 e.f6.f1 e.f6.f2 e.f6.f3).bind fun i1 => if v0 = v1 ∧ s = true ∧ n0 = n1 ∧ i0 = i1 then some true else none else none) else some true
theorem corrielaw19_HistoryTells.gmono (l0 : List S31) (a1 : Int) (e : S31) (k : Nat) : LeO (corrielaw19_HistoryTells.g k l0 a1 e) (corrielaw19_HistoryTells.g (k + 1) l0 a1 e) := by
 unfold corrielaw19_HistoryTells.g
 exact LeO.bind (corrieref19_Few.mono _ _ _) (fun _ => LeO.ite (LeO.ite (LeO.bind (history_Valid.mono _ _) (fun _ => LeO.bind (corrieref19_Valid.mono _ _) (fun _ => LeO.bind (corrieref19_Same.mono _ _ _) (fun _ => LeO.bind (history_Size.mono _ _ _) (fun _ => LeO.bind (corrieref19_Size.mono _ _ _) (fun _ => LeO.bind (hin_c.mono_l _ _ _ _ _) (fun _ => LeO.bind (corrieref19_Inserts.mono _ _ _ _ _ _ _ _ _ _ _ _ _ _ _) (fun _ => LeO.refl _)))))))) (LeO.refl _)) (LeO.refl _))
set_option maxHeartbeats 8000000 in
set_option maxRecDepth 100000 in
theorem corrielaw19_HistoryTells.law (k : Nat) (A0 : Option Addr) (c0 : Nat) (l0 : List S31) (a1 : Int) (e : S31) (Ae : Option Addr) (ce : Nat) (r : Bool) (w : World) (hr0 : Kd.C k31 w A0 l0.length l0) (hc0 : l0.length ≤ c0) (hre : Kd.C k49 w Ae e.f6.f3.length e.f6.f3) (hce : e.f6.f3.length ≤ ce) (h : corrielaw19_HistoryTells.g k l0 a1 e = some r) :
  Calls Try.prog 3 #[.slice A0 l0.length c0, .int .i64 a1, .agg #[.int .i64 e.f0, .int .i64 e.f1, .int .i64 e.f2, .int .i64 e.f3, .int .i64 e.f4, .int .i64 e.f5.f0, .int .u64 e.f5.f1, .int .u64 e.f5.f2, .int .i64 e.f5.f3, .int .i64 e.f6.f0, .bool e.f6.f1, .int .u64 e.f6.f2, .slice Ae e.f6.f3.length ce]] w fun e_ w' => e_ = .returned (.bool r) ∧ Below w.heap.size w w' := by
 have HR0 := Aside0.mk hr0
 have HC0 := Aside0.mk hc0
 have HRE := Aside0.mk hre
 have HCE := Aside0.mk hce
 have HB := Aside0.mk (Below.refl w.heap.size w)
 clear hr0 hc0 hre hce
 unfold corrielaw19_HistoryTells.g at h
 obtain ⟨z, hz, h⟩ := Option.bind_eq_some_iff.mp h
 have Hz := Aside0.mk hz
 clear hz
 cases z with
 | false =>
  obtain rfl := Option.some.inj h
  clear h
  go_enter Try.func3, Try.ntmps3
  go_wp2_with (first | ((with_reducible refine gate_dst (N := 5) rfl ?_); refine box_event ?hg (N := 5) ?hd (cs := #[.int .i64 e.f0, .int .i64 e.f1, .int .i64 e.f2, .int .i64 e.f3, .int .i64 e.f4, .int .i64 e.f5.f0, .int .u64 e.f5.f1, .int .u64 e.f5.f2, .int .i64 e.f5.f3, .int .i64 e.f6.f0, .bool e.f6.f1, .int .u64 e.f6.f2, .slice Ae e.f6.f3.length ce]) (t := 31) ?hr ?_; (case hd => rfl); (case hg => rfl); (case hr => first | (go_simp; done) | (go_simp; rfl)); intro ge hg wb_ge hbox hb; have BKge := Aside0.mk hbox; have n0_ := Aside0.mk (below_step HB.out hb); clear HB; have HB := n0_; clear n0_; clear hb hbox hg) | (go_at_call 8; (with_reducible refine (corrielaw19_awake.calls true _ rfl).mono ?_); rintro e w1 ⟨rfl, hb⟩; have n_BKge := Aside0.mk (blk_below (g := ge) (o := .cells #[.int .i64 e.f0, .int .i64 e.f1, .int .i64 e.f2, .int .i64 e.f3, .int .i64 e.f4, .int .i64 e.f5.f0, .int .u64 e.f5.f1, .int .u64 e.f5.f2, .int .i64 e.f5.f3, .int .i64 e.f6.f0, .bool e.f6.f1, .int .u64 e.f6.f2, .slice Ae e.f6.f3.length ce] 31 (0, 0)) BKge.out hb); clear BKge; have BKge := n_BKge; clear n_BKge; have n0_ := Aside0.mk (below_step HB.out hb); clear HB hb; have HB := n0_; clear n0_) | (go_at_call 9; (with_reducible refine (corrieref19_Few.calls k A0 c0 l0 12 false _ (Kd.C_below HR0.out HB.out) HC0.out Hz.out).mono ?_); rintro e_ w2 ⟨rfl, hd⟩; have hb := Drawn0.below hd; clear hd; have n_BKge := Aside0.mk (blk_below (g := ge) (o := .cells #[.int .i64 e.f0, .int .i64 e.f1, .int .i64 e.f2, .int .i64 e.f3, .int .i64 e.f4, .int .i64 e.f5.f0, .int .u64 e.f5.f1, .int .u64 e.f5.f2, .int .i64 e.f5.f3, .int .i64 e.f6.f0, .bool e.f6.f1, .int .u64 e.f6.f2, .slice Ae e.f6.f3.length ce] 31 (0, 0)) BKge.out hb); clear BKge; have BKge := n_BKge; clear n_BKge; have n0_ := Aside0.mk (below_step HB.out hb); clear HB hb; have HB := n0_; clear n0_))
  go_ret
  exact ⟨by first | rfl | (simp [*]; done), by repeat (first | (with_reducible first | exact HB.out | apply below_alloc | apply pw_below_drewN | apply below_drew1) | exact HB.out)⟩
 | true =>
  replace h := (if_pos (c := (true = true)) rfl).symm.trans h
  by_cases hl : l0.length ≤ 12
  rotate_left
  ·rw [if_neg hl] at h
   cases h
  rw [if_pos hl] at h
  have HL := Aside0.mk hl
  clear hl
  obtain ⟨v0, hv0, h⟩ := Option.bind_eq_some_iff.mp h
  have Hv0 := Aside0.mk hv0
  clear hv0
  obtain ⟨v1, hv1, h⟩ := Option.bind_eq_some_iff.mp h
  have Hv1 := Aside0.mk hv1
  clear hv1
  obtain ⟨s, hs, h⟩ := Option.bind_eq_some_iff.mp h
  have Hs := Aside0.mk hs
  clear hs
  obtain ⟨n0, hn0, h⟩ := Option.bind_eq_some_iff.mp h
  have Hn0 := Aside0.mk hn0
  clear hn0
  obtain ⟨n1, hn1, h⟩ := Option.bind_eq_some_iff.mp h
  have Hn1 := Aside0.mk hn1
  clear hn1
  obtain ⟨i0, hi0, h⟩ := Option.bind_eq_some_iff.mp h
  have Hi0 := Aside0.mk hi0
  clear hi0
  obtain ⟨i1, hi1, h⟩ := Option.bind_eq_some_iff.mp h
  have Hi1 := Aside0.mk hi1
  clear hi1
  by_cases cc : v0 = v1 ∧ s = true ∧ n0 = n1 ∧ i0 = i1
  rotate_left
  ·rw [if_neg cc] at h
   cases h
  rw [if_pos cc] at h
  obtain rfl := Option.some.inj h
  obtain ⟨rfl, rfl, rfl, rfl⟩ := cc
  clear h
  go_enter Try.func3, Try.ntmps3
  go_upto_region 4 with (first | ((with_reducible refine gate_dst (N := 5) rfl ?_); refine box_event ?hg (N := 5) ?hd (cs := #[.int .i64 e.f0, .int .i64 e.f1, .int .i64 e.f2, .int .i64 e.f3, .int .i64 e.f4, .int .i64 e.f5.f0, .int .u64 e.f5.f1, .int .u64 e.f5.f2, .int .i64 e.f5.f3, .int .i64 e.f6.f0, .bool e.f6.f1, .int .u64 e.f6.f2, .slice Ae e.f6.f3.length ce]) (t := 31) ?hr ?_; (case hd => rfl); (case hg => rfl); (case hr => first | (go_simp; done) | (go_simp; rfl)); intro ge hg wb_ge hbox hb; have BKge := Aside0.mk hbox; have n0_ := Aside0.mk (below_step HB.out hb); clear HB; have HB := n0_; clear n0_; clear hb hbox hg) | (go_at_call 8; (with_reducible refine (corrielaw19_awake.calls true _ rfl).mono ?_); rintro e w1 ⟨rfl, hb⟩; have n_BKge := Aside0.mk (blk_below (g := ge) (o := .cells #[.int .i64 e.f0, .int .i64 e.f1, .int .i64 e.f2, .int .i64 e.f3, .int .i64 e.f4, .int .i64 e.f5.f0, .int .u64 e.f5.f1, .int .u64 e.f5.f2, .int .i64 e.f5.f3, .int .i64 e.f6.f0, .bool e.f6.f1, .int .u64 e.f6.f2, .slice Ae e.f6.f3.length ce] 31 (0, 0)) BKge.out hb); clear BKge; have BKge := n_BKge; clear n_BKge; have n0_ := Aside0.mk (below_step HB.out hb); clear HB hb; have HB := n0_; clear n0_) | (go_at_call 9; (with_reducible refine (corrieref19_Few.calls k A0 c0 l0 12 true _ (Kd.C_below HR0.out HB.out) HC0.out Hz.out).mono ?_); rintro e_ w2 ⟨rfl, hd⟩; have hb := Drawn0.below hd; clear hd; have n_BKge := Aside0.mk (blk_below (g := ge) (o := .cells #[.int .i64 e.f0, .int .i64 e.f1, .int .i64 e.f2, .int .i64 e.f3, .int .i64 e.f4, .int .i64 e.f5.f0, .int .u64 e.f5.f1, .int .u64 e.f5.f2, .int .i64 e.f5.f3, .int .i64 e.f6.f0, .bool e.f6.f1, .int .u64 e.f6.f2, .slice Ae e.f6.f3.length ce] 31 (0, 0)) BKge.out hb); clear BKge; have BKge := n_BKge; clear n_BKge; have n0_ := Aside0.mk (below_step HB.out hb); clear HB hb; have HB := n0_; clear n0_))
  have n_BKge := Aside0.mk (blk_drew (g := ge) (o := .cells #[.int .i64 e.f0, .int .i64 e.f1, .int .i64 e.f2, .int .i64 e.f3, .int .i64 e.f4, .int .i64 e.f5.f0, .int .u64 e.f5.f1, .int .u64 e.f5.f2, .int .i64 e.f5.f3, .int .i64 e.f6.f0, .bool e.f6.f1, .int .u64 e.f6.f2, .slice Ae e.f6.f3.length ce] 31 (0, 0)) BKge.out)
  clear BKge
  have BKge := n_BKge
  clear n_BKge
  have n1_ := Aside0.mk (below_drew1 HB.out)
  clear HB
  have HB := n1_
  clear n1_
  refine start_ (n := 34) (S := fun w' => w'.cell? ⟨ge, 0, none⟩ = some (.int .i64 e.f0) ∧ w'.cell? ⟨ge, 1, none⟩ = some (.int .i64 e.f1) ∧ w'.cell? ⟨ge, 2, none⟩ = some (.int .i64 e.f2) ∧ w'.cell? ⟨ge, 3, none⟩ = some (.int .i64 e.f3) ∧ w'.cell? ⟨ge, 4, none⟩ = some (.int .i64 e.f4) ∧ w'.cell? ⟨ge, 5, none⟩ = some (.int .i64 e.f5.f0) ∧ w'.cell? ⟨ge, 6, none⟩ = some (.int .u64 e.f5.f1) ∧ w'.cell? ⟨ge, 7, none⟩ = some (.int .u64 e.f5.f2) ∧ w'.cell? ⟨ge, 8, none⟩ = some (.int .i64 e.f5.f3) ∧ w'.cell? ⟨ge, 9, none⟩ = some (.int .i64 e.f6.f0) ∧ w'.cell? ⟨ge, 10, none⟩ = some (.bool e.f6.f1) ∧ w'.cell? ⟨ge, 11, none⟩ = some (.int .u64 e.f6.f2) ∧ w'.cell? ⟨ge, 12, none⟩ = some (.slice Ae e.f6.f3.length ce)) (ds := []) #[false, false, false, false, false, false, false, false, false, false, false, false, false, false, false, false, false, false, false, false, false, false, false, false, false, false, false, false, false, false, false, false, false, false] (by kernel_rfl) rfl rfl ⟨((blk_cell BKge.out 0).trans rfl), ((blk_cell BKge.out 1).trans rfl), ((blk_cell BKge.out 2).trans rfl), ((blk_cell BKge.out 3).trans rfl), ((blk_cell BKge.out 4).trans rfl), ((blk_cell BKge.out 5).trans rfl), ((blk_cell BKge.out 6).trans rfl), ((blk_cell BKge.out 7).trans rfl), ((blk_cell BKge.out 8).trans rfl), ((blk_cell BKge.out 9).trans rfl), ((blk_cell BKge.out 10).trans rfl), ((blk_cell BKge.out 11).trans rfl), ((blk_cell BKge.out 12).trans rfl)⟩ (fun hHeld => ?_); refine with_tabW corrielaw19_HistoryTells.tab4 corrielaw19_HistoryTells.bits4 (fun HT_ HW_ => ?_)
  generalize w2.drew = W1 at BKge HB hHeld ⊢
  refine pure_ (i := 0) (N := some 13) (v := ?_) (a' := ?_) (hte_lb 34 1) rfl rfl (any_of HT_.out (by kernel_rfl)) (fun _ _ _ h => h) (Or.inl ⟨by rfl, ?_⟩) ?_ ?_; rotate_left
  ·intro w'; go_simp; with_reducible rfl
  rotate_left
  ·simp only [Act.put, List.setIfInBounds_toArray, List.set_cons_zero, List.set_cons_succ, i64_w, i32_w]; rfl
  refine pure_ (i := 1) (N := some 14) (v := ?_) (a' := ?_) (hte_lb 34 3) rfl rfl (any_of HT_.out (by kernel_rfl)) (fun _ _ _ h => h) (Or.inl ⟨by rfl, ?_⟩) ?_ ?_; rotate_left
  ·intro w'; go_simp; with_reducible rfl
  rotate_left
  ·simp only [Act.put, List.setIfInBounds_toArray, List.set_cons_zero, List.set_cons_succ, i64_w, i32_w]; rfl
  refine pure_ (i := 2) (N := some 15) (v := ?_) (a' := ?_) (hte_lb 34 7) rfl rfl (any_of HT_.out (by kernel_rfl)) (fun _ _ _ h => h) (Or.inl ⟨by rfl, ?_⟩) ?_ ?_; rotate_left
  ·intro w'; go_simp; with_reducible rfl
  rotate_left
  ·simp only [Act.put, List.setIfInBounds_toArray, List.set_cons_zero, List.set_cons_succ, i64_w, i32_w]; rfl
  refine pure_ (i := 4) (N := some 17) (v := ?_) (a' := ?_) (hte_lb 34 23) rfl rfl (any_of HT_.out (by kernel_rfl)) (fun _ _ _ h => h) (Or.inl ⟨by rfl, ?_⟩) ?_ ?_; rotate_left
  ·intro w'; go_simp; with_reducible rfl
  rotate_left
  ·simp only [Act.put, List.setIfInBounds_toArray, List.set_cons_zero, List.set_cons_succ, i64_w, i32_w]; rfl
  refine one_ (i := 3) (N := some 16) (hte_lb 34 31) rfl rfl (one_of HT_.out (by kernel_rfl)) (by decide) (fun K hK => ?_)
  refine goes_ Try.func10 (by kernel_rfl) rfl #[.slice A0 l0.length c0] (by rfl) rfl rfl (by (try simp only [List.map_toArray, List.map_cons, List.map_nil]); first | done | rfl) ?_
  with_reducible refine (history_Valid.calls k A0 c0 l0 v0 _ (Kd.C_below HR0.out HB.out) HC0.out Hv0.out).mono ?_
  rintro e w3 ⟨rfl, hb⟩
  refine ⟨_, rfl, ?_⟩
  have n_BKge := Aside0.mk (blk_below (g := ge) (o := .cells #[.int .i64 e.f0, .int .i64 e.f1, .int .i64 e.f2, .int .i64 e.f3, .int .i64 e.f4, .int .i64 e.f5.f0, .int .u64 e.f5.f1, .int .u64 e.f5.f2, .int .i64 e.f5.f3, .int .i64 e.f6.f0, .bool e.f6.f1, .int .u64 e.f6.f2, .slice Ae e.f6.f3.length ce] 31 (0, 0)) BKge.out hb)
  clear BKge
  have BKge := n_BKge
  clear n_BKge
  have n1_ := Aside0.mk (below_step HB.out hb)
  clear HB hb
  have HB := n1_
  clear n1_
  refine hK.out _ _ ⟨((blk_cell BKge.out 0).trans rfl), ((blk_cell BKge.out 1).trans rfl), ((blk_cell BKge.out 2).trans rfl), ((blk_cell BKge.out 3).trans rfl), ((blk_cell BKge.out 4).trans rfl), ((blk_cell BKge.out 5).trans rfl), ((blk_cell BKge.out 6).trans rfl), ((blk_cell BKge.out 7).trans rfl), ((blk_cell BKge.out 8).trans rfl), ((blk_cell BKge.out 9).trans rfl), ((blk_cell BKge.out 10).trans rfl), ((blk_cell BKge.out 11).trans rfl), ((blk_cell BKge.out 12).trans rfl)⟩ (fun hHeld => ?_)
  clear hK K
  refine norm_ (a' := ?_) ?_ ?_
  rotate_left
  ·show Act.put _ (some 16) _ = _
   simp only [Act.put, List.setIfInBounds_toArray, List.set_cons_zero, List.set_cons_succ, i64_w, i32_w]
   rfl
  refine one_ (i := 5) (N := some 18) (hte_lb 34 63) rfl rfl (one_of HT_.out (by kernel_rfl)) (by decide) (fun K hK => ?_)
  refine goes_ Try.func11 (by kernel_rfl) rfl #[.slice A0 l0.length c0] (by rfl) rfl rfl (by (try simp only [List.map_toArray, List.map_cons, List.map_nil]); first | done | rfl) ?_
  with_reducible refine (corrieref19_Valid.calls k A0 c0 l0 v0 _ (Kd.C_below HR0.out HB.out) HC0.out Hv1.out).mono ?_
  rintro e w5 ⟨rfl, hb⟩
  refine ⟨_, rfl, ?_⟩
  have n_BKge := Aside0.mk (blk_below (g := ge) (o := .cells #[.int .i64 e.f0, .int .i64 e.f1, .int .i64 e.f2, .int .i64 e.f3, .int .i64 e.f4, .int .i64 e.f5.f0, .int .u64 e.f5.f1, .int .u64 e.f5.f2, .int .i64 e.f5.f3, .int .i64 e.f6.f0, .bool e.f6.f1, .int .u64 e.f6.f2, .slice Ae e.f6.f3.length ce] 31 (0, 0)) BKge.out hb)
  clear BKge
  have BKge := n_BKge
  clear n_BKge
  have n1_ := Aside0.mk (below_step HB.out hb)
  clear HB hb
  have HB := n1_
  clear n1_
  refine hK.out _ _ ⟨((blk_cell BKge.out 0).trans rfl), ((blk_cell BKge.out 1).trans rfl), ((blk_cell BKge.out 2).trans rfl), ((blk_cell BKge.out 3).trans rfl), ((blk_cell BKge.out 4).trans rfl), ((blk_cell BKge.out 5).trans rfl), ((blk_cell BKge.out 6).trans rfl), ((blk_cell BKge.out 7).trans rfl), ((blk_cell BKge.out 8).trans rfl), ((blk_cell BKge.out 9).trans rfl), ((blk_cell BKge.out 10).trans rfl), ((blk_cell BKge.out 11).trans rfl), ((blk_cell BKge.out 12).trans rfl)⟩ (fun hHeld => ?_)
  clear hK K
  refine norm_ (a' := ?_) ?_ ?_
  rotate_left
  ·show Act.put _ (some 18) _ = _
   simp only [Act.put, List.setIfInBounds_toArray, List.set_cons_zero, List.set_cons_succ, i64_w, i32_w]
   rfl
  refine pure_ (i := 6) (N := some 19) (v := ?_) (a' := ?_) (hte_lb 34 127) rfl rfl (any_of HT_.out (by kernel_rfl)) (fun _ _ _ h => h) (Or.inl ⟨by rfl, ?_⟩) ?_ ?_; rotate_left
  ·intro w'; go_simp; with_reducible rfl
  rotate_left
  ·simp only [Act.put, List.setIfInBounds_toArray, List.set_cons_zero, List.set_cons_succ, i64_w, i32_w]; rfl
  refine pure_ (i := 7) (N := some 20) (v := ?_) (a' := ?_) (hte_lb 34 255) rfl rfl (any_of HT_.out (by kernel_rfl)) (fun _ _ _ h => h) (Or.inl ⟨by rfl, ?_⟩) ?_ ?_; rotate_left
  ·intro w'; go_simp; with_reducible rfl
  rotate_left
  ·simp only [Act.put, List.setIfInBounds_toArray, List.set_cons_zero, List.set_cons_succ, i64_w, i32_w]; rfl
  refine pure_ (i := 8) (N := some 21) (v := ?_) (a' := ?_) (hte_lb 34 511) rfl rfl (any_of HT_.out (by kernel_rfl)) (fun _ _ _ h => h) (Or.inl ⟨by rfl, ?_⟩) ?_ ?_; rotate_left
  ·intro w'; go_simp; with_reducible rfl
  rotate_left
  ·simp only [Act.put, List.setIfInBounds_toArray, List.set_cons_zero, List.set_cons_succ, i64_w, i32_w]; rfl
  refine pure_ (i := 9) (N := some 22) (v := ?_) (a' := ?_) (hte_lb 34 1023) rfl rfl (any_of HT_.out (by kernel_rfl)) (fun _ _ _ h => h) (Or.inl ⟨by rfl, ?_⟩) ?_ ?_; rotate_left
  ·intro w'; go_simp; with_reducible rfl
  rotate_left
  ·simp only [Act.put, List.setIfInBounds_toArray, List.set_cons_zero, List.set_cons_succ, i64_w, i32_w]; rfl
  refine pure_ (i := 11) (N := some 24) (v := ?_) (a' := ?_) (hte_lb 34 3071) rfl rfl (any_of HT_.out (by kernel_rfl)) (fun _ _ _ h => h) (Or.inl ⟨by rfl, ?_⟩) ?_ ?_; rotate_left
  ·intro w'; go_simp; with_reducible rfl
  rotate_left
  ·simp only [Act.put, List.setIfInBounds_toArray, List.set_cons_zero, List.set_cons_succ, i64_w, i32_w]; rfl
  refine one_ (i := 10) (N := some 23) (hte_lb 34 4095) rfl rfl (one_of HT_.out (by kernel_rfl)) (by decide) (fun K hK => ?_)
  refine goes_ Try.func13 (by kernel_rfl) rfl #[.slice A0 l0.length c0] (by rfl) rfl rfl (by (try simp only [List.map_toArray, List.map_cons, List.map_nil]); first | done | rfl) ?_
  with_reducible refine (history_Points.law A0 c0 l0 _ (Kd.C_below HR0.out HB.out) (Nat.le_trans HL.out (by decide))).mono ?_
  rintro e w10 ⟨Ap, cp, rfl, hcp, hlp, hb⟩
  refine ⟨_, rfl, ?_⟩
  have n_BKge := Aside0.mk (blk_below (g := ge) (o := .cells #[.int .i64 e.f0, .int .i64 e.f1, .int .i64 e.f2, .int .i64 e.f3, .int .i64 e.f4, .int .i64 e.f5.f0, .int .u64 e.f5.f1, .int .u64 e.f5.f2, .int .i64 e.f5.f3, .int .i64 e.f6.f0, .bool e.f6.f1, .int .u64 e.f6.f2, .slice Ae e.f6.f3.length ce] 31 (0, 0)) BKge.out hb)
  clear BKge
  have BKge := n_BKge
  clear n_BKge
  have HCP := Aside0.mk hcp
  have HLP := Aside0.mk hlp
  clear hcp hlp
  have n1_ := Aside0.mk (below_step HB.out hb)
  clear HB hb
  have HB := n1_
  clear n1_
  refine hK.out _ _ ⟨((blk_cell BKge.out 0).trans rfl), ((blk_cell BKge.out 1).trans rfl), ((blk_cell BKge.out 2).trans rfl), ((blk_cell BKge.out 3).trans rfl), ((blk_cell BKge.out 4).trans rfl), ((blk_cell BKge.out 5).trans rfl), ((blk_cell BKge.out 6).trans rfl), ((blk_cell BKge.out 7).trans rfl), ((blk_cell BKge.out 8).trans rfl), ((blk_cell BKge.out 9).trans rfl), ((blk_cell BKge.out 10).trans rfl), ((blk_cell BKge.out 11).trans rfl), ((blk_cell BKge.out 12).trans rfl)⟩ (fun hHeld => ?_)
  clear hK K
  refine norm_ (a' := ?_) ?_ ?_
  rotate_left
  ·show Act.put _ (some 23) _ = _
   simp only [Act.put, List.setIfInBounds_toArray, List.set_cons_zero, List.set_cons_succ, i64_w, i32_w]
   rfl
  refine one_ (i := 12) (N := some 25) (hte_lb 34 8191) rfl rfl (one_of HT_.out (by kernel_rfl)) (by decide) (fun K hK => ?_)
  refine goes_ Try.func14 (by kernel_rfl) rfl #[.slice A0 l0.length c0] (by rfl) rfl rfl (by (try simp only [List.map_toArray, List.map_cons, List.map_nil]); first | done | rfl) ?_
  with_reducible refine (corrieref19_Points.law A0 c0 l0 _ (Kd.C_below HR0.out HB.out) (Nat.le_trans HL.out (by decide))).mono ?_
  rintro e w12 ⟨Aq, cq, rfl, hcq, hlq, hb⟩
  refine ⟨_, rfl, ?_⟩
  have n_BKge := Aside0.mk (blk_below (g := ge) (o := .cells #[.int .i64 e.f0, .int .i64 e.f1, .int .i64 e.f2, .int .i64 e.f3, .int .i64 e.f4, .int .i64 e.f5.f0, .int .u64 e.f5.f1, .int .u64 e.f5.f2, .int .i64 e.f5.f3, .int .i64 e.f6.f0, .bool e.f6.f1, .int .u64 e.f6.f2, .slice Ae e.f6.f3.length ce] 31 (0, 0)) BKge.out hb)
  clear BKge
  have BKge := n_BKge
  clear n_BKge
  have HCQ := Aside0.mk hcq
  have HLQ := Aside0.mk hlq
  clear hcq hlq
  have n_ := Aside0.mk (Kd.C_below HCP.out hb)
  clear HCP
  have HCP := n_
  clear n_
  have n1_ := Aside0.mk (below_step HB.out hb)
  clear HB hb
  have HB := n1_
  clear n1_
  refine hK.out _ _ ⟨((blk_cell BKge.out 0).trans rfl), ((blk_cell BKge.out 1).trans rfl), ((blk_cell BKge.out 2).trans rfl), ((blk_cell BKge.out 3).trans rfl), ((blk_cell BKge.out 4).trans rfl), ((blk_cell BKge.out 5).trans rfl), ((blk_cell BKge.out 6).trans rfl), ((blk_cell BKge.out 7).trans rfl), ((blk_cell BKge.out 8).trans rfl), ((blk_cell BKge.out 9).trans rfl), ((blk_cell BKge.out 10).trans rfl), ((blk_cell BKge.out 11).trans rfl), ((blk_cell BKge.out 12).trans rfl)⟩ (fun hHeld => ?_)
  clear hK K
  refine norm_ (a' := ?_) ?_ ?_
  rotate_left
  ·show Act.put _ (some 25) _ = _
   simp only [Act.put, List.setIfInBounds_toArray, List.set_cons_zero, List.set_cons_succ, i64_w, i32_w]
   rfl
  refine one_ (i := 13) (N := some 26) (hte_lb 34 16383) rfl rfl (one_of HT_.out (by kernel_rfl)) (by decide) (fun K hK => ?_)
  refine goes_ Try.func12 (by kernel_rfl) rfl #[.slice Ap (l0.filter fun x => !history_Points1.f x).length cp, .slice Aq (l0.filter fun x => !history_Points1.f x).length cq] (by rfl) rfl rfl (by (try simp only [List.map_toArray, List.map_cons, List.map_nil]); first | done | rfl) ?_
  with_reducible refine (corrieref19_Same.calls k Ap cp (l0.filter fun x => !history_Points1.f x) Aq cq (l0.filter fun x => !history_Points1.f x) true _ HCP.out HLP.out HCQ.out HLQ.out Hs.out).mono ?_
  rintro e w13 ⟨rfl, hb⟩
  refine ⟨_, rfl, ?_⟩
  have n_BKge := Aside0.mk (blk_below (g := ge) (o := .cells #[.int .i64 e.f0, .int .i64 e.f1, .int .i64 e.f2, .int .i64 e.f3, .int .i64 e.f4, .int .i64 e.f5.f0, .int .u64 e.f5.f1, .int .u64 e.f5.f2, .int .i64 e.f5.f3, .int .i64 e.f6.f0, .bool e.f6.f1, .int .u64 e.f6.f2, .slice Ae e.f6.f3.length ce] 31 (0, 0)) BKge.out hb)
  clear BKge
  have BKge := n_BKge
  clear n_BKge
  clear HCP HCQ HLP HLQ
  have n1_ := Aside0.mk (below_step HB.out hb)
  clear HB hb
  have HB := n1_
  clear n1_
  refine hK.out _ _ ⟨((blk_cell BKge.out 0).trans rfl), ((blk_cell BKge.out 1).trans rfl), ((blk_cell BKge.out 2).trans rfl), ((blk_cell BKge.out 3).trans rfl), ((blk_cell BKge.out 4).trans rfl), ((blk_cell BKge.out 5).trans rfl), ((blk_cell BKge.out 6).trans rfl), ((blk_cell BKge.out 7).trans rfl), ((blk_cell BKge.out 8).trans rfl), ((blk_cell BKge.out 9).trans rfl), ((blk_cell BKge.out 10).trans rfl), ((blk_cell BKge.out 11).trans rfl), ((blk_cell BKge.out 12).trans rfl)⟩ (fun hHeld => ?_)
  clear hK K
  refine norm_ (a' := ?_) ?_ ?_
  rotate_left
  ·show Act.put _ (some 26) _ = _
   simp only [Act.put, List.setIfInBounds_toArray, List.set_cons_zero, List.set_cons_succ, i64_w, i32_w]
   rfl
  refine pure_ (i := 14) (N := some 27) (v := ?_) (a' := ?_) (hte_lb 34 32767) rfl rfl (any_of HT_.out (by kernel_rfl)) (fun _ _ _ h => h) (Or.inl ⟨by rfl, ?_⟩) ?_ ?_; rotate_left
  ·intro w'; go_simp; with_reducible rfl
  rotate_left
  ·simp only [Act.put, List.setIfInBounds_toArray, List.set_cons_zero, List.set_cons_succ, i64_w, i32_w]; rfl
  refine pure_ (i := 15) (N := some 28) (v := ?_) (a' := ?_) (hte_lb 34 65535) rfl rfl (any_of HT_.out (by kernel_rfl)) (fun _ _ _ h => h) (Or.inl ⟨by rfl, ?_⟩) ?_ ?_; rotate_left
  ·intro w'; go_simp; with_reducible rfl
  rotate_left
  ·simp only [Act.put, List.setIfInBounds_toArray, List.set_cons_zero, List.set_cons_succ, i64_w, i32_w]; rfl
  refine pure_ (i := 16) (N := some 29) (v := ?_) (a' := ?_) (hte_lb 34 131071) rfl rfl (any_of HT_.out (by kernel_rfl)) (fun _ _ _ h => h) (Or.inl ⟨by rfl, ?_⟩) ?_ ?_; rotate_left
  ·intro w'; go_simp; with_reducible rfl
  rotate_left
  ·simp only [Act.put, List.setIfInBounds_toArray, List.set_cons_zero, List.set_cons_succ, i64_w, i32_w]; rfl
  refine pure_ (i := 17) (N := some 30) (v := ?_) (a' := ?_) (hte_lb 34 262143) rfl rfl (any_of HT_.out (by kernel_rfl)) (fun _ _ _ h => h) (Or.inl ⟨by rfl, ?_⟩) ?_ ?_; rotate_left
  ·intro w'; go_simp; with_reducible rfl
  rotate_left
  ·simp only [Act.put, List.setIfInBounds_toArray, List.set_cons_zero, List.set_cons_succ, i64_w, i32_w]; rfl
  refine pure_ (i := 19) (N := some 32) (v := ?_) (a' := ?_) (hte_lb 34 786431) rfl rfl (any_of HT_.out (by kernel_rfl)) (fun _ _ _ h => h) (Or.inl ⟨by rfl, ?_⟩) ?_ ?_; rotate_left
  ·intro w'; go_simp; with_reducible rfl
  rotate_left
  ·simp only [Act.put, List.setIfInBounds_toArray, List.set_cons_zero, List.set_cons_succ, i64_w, i32_w]; rfl
  refine pure_ (i := 20) (N := some 33) (v := ?_) (a' := ?_) (hte_lb 34 1835007) rfl rfl (any_of HT_.out (by kernel_rfl)) (fun _ _ _ h => h) (Or.inl ⟨by rfl, ?_⟩) ?_ ?_; rotate_left
  ·intro w'; go_simp; with_reducible rfl
  rotate_left
  ·simp only [Act.put, List.setIfInBounds_toArray, List.set_cons_zero, List.set_cons_succ, i64_w, i32_w]; rfl
  refine one_ (i := 18) (N := some 31) (hte_lb 34 2097151) rfl rfl (one_of HT_.out (by kernel_rfl)) (by decide) (fun K hK => ?_)
  refine goes_ Try.func15 (by kernel_rfl) rfl #[.slice A0 l0.length c0, .int .i64 a1] (by rfl) rfl rfl (by (try simp only [List.map_toArray, List.map_cons, List.map_nil]); first | done | rfl) ?_
  with_reducible refine (history_Size.calls k A0 c0 l0 a1 n0 _ (Kd.C_below HR0.out HB.out) HC0.out Hn0.out).mono ?_
  rintro e w18 ⟨rfl, hb⟩
  refine ⟨_, rfl, ?_⟩
  have n_BKge := Aside0.mk (blk_below (g := ge) (o := .cells #[.int .i64 e.f0, .int .i64 e.f1, .int .i64 e.f2, .int .i64 e.f3, .int .i64 e.f4, .int .i64 e.f5.f0, .int .u64 e.f5.f1, .int .u64 e.f5.f2, .int .i64 e.f5.f3, .int .i64 e.f6.f0, .bool e.f6.f1, .int .u64 e.f6.f2, .slice Ae e.f6.f3.length ce] 31 (0, 0)) BKge.out hb)
  clear BKge
  have BKge := n_BKge
  clear n_BKge
  have n1_ := Aside0.mk (below_step HB.out hb)
  clear HB hb
  have HB := n1_
  clear n1_
  refine hK.out _ _ ⟨((blk_cell BKge.out 0).trans rfl), ((blk_cell BKge.out 1).trans rfl), ((blk_cell BKge.out 2).trans rfl), ((blk_cell BKge.out 3).trans rfl), ((blk_cell BKge.out 4).trans rfl), ((blk_cell BKge.out 5).trans rfl), ((blk_cell BKge.out 6).trans rfl), ((blk_cell BKge.out 7).trans rfl), ((blk_cell BKge.out 8).trans rfl), ((blk_cell BKge.out 9).trans rfl), ((blk_cell BKge.out 10).trans rfl), ((blk_cell BKge.out 11).trans rfl), ((blk_cell BKge.out 12).trans rfl)⟩ (fun hHeld => ?_)
  clear hK K
  refine norm_ (a' := ?_) ?_ ?_
  rotate_left
  ·show Act.put _ (some 31) _ = _
   simp only [Act.put, List.setIfInBounds_toArray, List.set_cons_zero, List.set_cons_succ, i64_w, i32_w]
   rfl
  refine one_ (i := 21) (N := some 34) (hte_lb 34 4194303) rfl rfl (one_of HT_.out (by kernel_rfl)) (by decide) (fun K hK => ?_)
  refine goes_ Try.func16 (by kernel_rfl) rfl #[.slice A0 l0.length c0, .int .i64 a1] (by rfl) rfl rfl (by (try simp only [List.map_toArray, List.map_cons, List.map_nil]); first | done | rfl) ?_
  with_reducible refine (corrieref19_Size.calls k A0 c0 l0 a1 n0 _ (Kd.C_below HR0.out HB.out) HC0.out Hn1.out).mono ?_
  rintro e w21 ⟨rfl, hb⟩
  refine ⟨_, rfl, ?_⟩
  have n_BKge := Aside0.mk (blk_below (g := ge) (o := .cells #[.int .i64 e.f0, .int .i64 e.f1, .int .i64 e.f2, .int .i64 e.f3, .int .i64 e.f4, .int .i64 e.f5.f0, .int .u64 e.f5.f1, .int .u64 e.f5.f2, .int .i64 e.f5.f3, .int .i64 e.f6.f0, .bool e.f6.f1, .int .u64 e.f6.f2, .slice Ae e.f6.f3.length ce] 31 (0, 0)) BKge.out hb)
  clear BKge
  have BKge := n_BKge
  clear n_BKge
  have n1_ := Aside0.mk (below_step HB.out hb)
  clear HB hb
  have HB := n1_
  clear n1_
  refine hK.out _ _ ⟨((blk_cell BKge.out 0).trans rfl), ((blk_cell BKge.out 1).trans rfl), ((blk_cell BKge.out 2).trans rfl), ((blk_cell BKge.out 3).trans rfl), ((blk_cell BKge.out 4).trans rfl), ((blk_cell BKge.out 5).trans rfl), ((blk_cell BKge.out 6).trans rfl), ((blk_cell BKge.out 7).trans rfl), ((blk_cell BKge.out 8).trans rfl), ((blk_cell BKge.out 9).trans rfl), ((blk_cell BKge.out 10).trans rfl), ((blk_cell BKge.out 11).trans rfl), ((blk_cell BKge.out 12).trans rfl)⟩ (fun hHeld => ?_)
  clear hK K
  refine norm_ (a' := ?_) ?_ ?_
  rotate_left
  ·show Act.put _ (some 34) _ = _
   simp only [Act.put, List.setIfInBounds_toArray, List.set_cons_zero, List.set_cons_succ, i64_w, i32_w]
   rfl
  refine pure_ (i := 22) (N := some 35) (v := ?_) (a' := ?_) (hte_lb 34 8388607) rfl rfl (any_of HT_.out (by kernel_rfl)) (fun _ _ _ h => h) (Or.inl ⟨by rfl, ?_⟩) ?_ ?_; rotate_left
  ·intro w'; go_simp; with_reducible rfl
  rotate_left
  ·simp only [Act.put, List.setIfInBounds_toArray, List.set_cons_zero, List.set_cons_succ, i64_w, i32_w]; rfl
  refine pure_ (i := 23) (N := some 36) (v := ?_) (a' := ?_) (hte_lb 34 16777215) rfl rfl (any_of HT_.out (by kernel_rfl)) (fun _ _ _ h => h) (Or.inl ⟨by rfl, ?_⟩) ?_ ?_; rotate_left
  ·intro w'; go_simp; with_reducible rfl
  rotate_left
  ·simp only [Act.put, List.setIfInBounds_toArray, List.set_cons_zero, List.set_cons_succ, i64_w, i32_w]; rfl
  refine pure_ (i := 24) (N := some 37) (v := ?_) (a' := ?_) (hte_lb 34 33554431) rfl rfl (any_of HT_.out (by kernel_rfl)) (fun _ _ _ h => h) (Or.inl ⟨by rfl, ?_⟩) ?_ ?_; rotate_left
  ·intro w'; go_simp; with_reducible rfl
  rotate_left
  ·simp only [Act.put, List.setIfInBounds_toArray, List.set_cons_zero, List.set_cons_succ, i64_w, i32_w]; rfl
  refine pure_ (i := 25) (N := some 38) (v := ?_) (a' := ?_) (hte_lb 34 67108863) rfl rfl (any_of HT_.out (by kernel_rfl)) (fun _ _ _ h => h) (Or.inl ⟨by rfl, ?_⟩) ?_ ?_; rotate_left
  ·intro w'; go_simp; with_reducible rfl
  rotate_left
  ·simp only [Act.put, List.setIfInBounds_toArray, List.set_cons_zero, List.set_cons_succ, i64_w, i32_w]; rfl
  refine pure_ (i := 28) (N := some 41) (v := ?_) (a' := ?_) (hte_lb 34 335544319) rfl rfl (any_of HT_.out (by kernel_rfl)) (fun _ _ _ h => h) (Or.inl ⟨by rfl, ?_⟩) ?_ ?_; rotate_left
  ·intro w'; go_simp; with_reducible rfl
  rotate_left
  ·simp only [Act.put, List.setIfInBounds_toArray, List.set_cons_zero, List.set_cons_succ, i64_w, i32_w]; rfl
  refine take_ (i := 26) (N := some 39) (v := ?_) (a' := ?_) (hte_lb 34 402653183) rfl rfl (take_ofW HT_.out HW_.out (by kernel_rfl)) (fun _ _ _ h => h) (Or.inl ⟨by rfl, ?_⟩) hHeld ?_ ?_; rotate_left
  ·rintro w' ⟨s0, s1, s2, s3, s4, s5, s6, s7, s8, s9, s10, s11, s12⟩; go_simp; with_reducible rfl
  rotate_left
  ·simp only [Act.put, List.setIfInBounds_toArray, List.set_cons_zero, List.set_cons_succ, i64_w, i32_w]; rfl
  refine take_ (i := 29) (N := some 42) (v := ?_) (a' := ?_) (hte_lb 34 939524095) rfl rfl (take_ofW HT_.out HW_.out (by kernel_rfl)) (fun _ _ _ h => h) (Or.inl ⟨by rfl, ?_⟩) hHeld ?_ ?_; rotate_left
  ·rintro w' ⟨s0, s1, s2, s3, s4, s5, s6, s7, s8, s9, s10, s11, s12⟩; go_simp; with_reducible rfl
  rotate_left
  ·simp only [Act.put, List.setIfInBounds_toArray, List.set_cons_zero, List.set_cons_succ, i64_w, i32_w]; rfl
  refine one_ (i := 27) (N := some 40) (hte_lb 34 1073741823) rfl rfl (one_of HT_.out (by kernel_rfl)) (by decide) (fun K hK => ?_)
  refine goes_ Try.func17 (by kernel_rfl) rfl #[.slice A0 l0.length c0, .agg #[.int .i64 e.f0, .int .i64 e.f1, .int .i64 e.f2, .int .i64 e.f3, .int .i64 e.f4, .int .i64 e.f5.f0, .int .u64 e.f5.f1, .int .u64 e.f5.f2, .int .i64 e.f5.f3, .int .i64 e.f6.f0, .bool e.f6.f1, .int .u64 e.f6.f2, .slice Ae e.f6.f3.length ce]] (by rfl) rfl rfl (by (try simp only [List.map_toArray, List.map_cons, List.map_nil]); first | done | rfl) ?_
  with_reducible refine (history_Inserts.law k A0 c0 l0 e Ae ce i0 _ (Kd.C_below HR0.out HB.out) Hi0.out).mono ?_
  rintro e w27 ⟨rfl, hb⟩
  refine ⟨_, rfl, ?_⟩
  have n_BKge := Aside0.mk (blk_below (g := ge) (o := .cells #[.int .i64 e.f0, .int .i64 e.f1, .int .i64 e.f2, .int .i64 e.f3, .int .i64 e.f4, .int .i64 e.f5.f0, .int .u64 e.f5.f1, .int .u64 e.f5.f2, .int .i64 e.f5.f3, .int .i64 e.f6.f0, .bool e.f6.f1, .int .u64 e.f6.f2, .slice Ae e.f6.f3.length ce] 31 (0, 0)) BKge.out hb)
  clear BKge
  have BKge := n_BKge
  clear n_BKge
  have n1_ := Aside0.mk (below_step HB.out hb)
  clear HB hb
  have HB := n1_
  clear n1_
  refine hK.out _ _ ⟨((blk_cell BKge.out 0).trans rfl), ((blk_cell BKge.out 1).trans rfl), ((blk_cell BKge.out 2).trans rfl), ((blk_cell BKge.out 3).trans rfl), ((blk_cell BKge.out 4).trans rfl), ((blk_cell BKge.out 5).trans rfl), ((blk_cell BKge.out 6).trans rfl), ((blk_cell BKge.out 7).trans rfl), ((blk_cell BKge.out 8).trans rfl), ((blk_cell BKge.out 9).trans rfl), ((blk_cell BKge.out 10).trans rfl), ((blk_cell BKge.out 11).trans rfl), ((blk_cell BKge.out 12).trans rfl)⟩ (fun hHeld => ?_)
  clear hK K
  refine norm_ (a' := ?_) ?_ ?_
  rotate_left
  ·show Act.put _ (some 40) _ = _
   simp only [Act.put, List.setIfInBounds_toArray, List.set_cons_zero, List.set_cons_succ, i64_w, i32_w]
   rfl
  refine one_ (i := 30) (N := some 43) (hte_lb 34 2147483647) rfl rfl (one_of HT_.out (by kernel_rfl)) (by decide) (fun K hK => ?_)
  refine goes_ Try.func18 (by kernel_rfl) rfl #[.slice A0 l0.length c0, .agg #[.int .i64 e.f0, .int .i64 e.f1, .int .i64 e.f2, .int .i64 e.f3, .int .i64 e.f4, .int .i64 e.f5.f0, .int .u64 e.f5.f1, .int .u64 e.f5.f2, .int .i64 e.f5.f3, .int .i64 e.f6.f0, .bool e.f6.f1, .int .u64 e.f6.f2, .slice Ae e.f6.f3.length ce]] (by rfl) rfl rfl (by (try simp only [List.map_toArray, List.map_cons, List.map_nil]); first | done | rfl) ?_
  with_reducible refine (corrieref19_Inserts.calls k A0 c0 l0 e.f0 e.f1 e.f2 e.f3 e.f4 e.f5.f0 e.f5.f1 e.f5.f2 e.f5.f3 e.f6.f0 e.f6.f1 e.f6.f2 Ae ce e.f6.f3 i0 _ (Kd.C_below HR0.out HB.out) HC0.out (Kd.C_below HRE.out HB.out) HCE.out Hi1.out).mono ?_
  rintro e w30 ⟨rfl, hb⟩
  refine ⟨_, rfl, ?_⟩
  have n_BKge := Aside0.mk (blk_below (g := ge) (o := .cells #[.int .i64 e.f0, .int .i64 e.f1, .int .i64 e.f2, .int .i64 e.f3, .int .i64 e.f4, .int .i64 e.f5.f0, .int .u64 e.f5.f1, .int .u64 e.f5.f2, .int .i64 e.f5.f3, .int .i64 e.f6.f0, .bool e.f6.f1, .int .u64 e.f6.f2, .slice Ae e.f6.f3.length ce] 31 (0, 0)) BKge.out hb)
  clear BKge
  have BKge := n_BKge
  clear n_BKge
  have n1_ := Aside0.mk (below_step HB.out hb)
  clear HB hb
  have HB := n1_
  clear n1_
  refine hK.out _ _ ⟨((blk_cell BKge.out 0).trans rfl), ((blk_cell BKge.out 1).trans rfl), ((blk_cell BKge.out 2).trans rfl), ((blk_cell BKge.out 3).trans rfl), ((blk_cell BKge.out 4).trans rfl), ((blk_cell BKge.out 5).trans rfl), ((blk_cell BKge.out 6).trans rfl), ((blk_cell BKge.out 7).trans rfl), ((blk_cell BKge.out 8).trans rfl), ((blk_cell BKge.out 9).trans rfl), ((blk_cell BKge.out 10).trans rfl), ((blk_cell BKge.out 11).trans rfl), ((blk_cell BKge.out 12).trans rfl)⟩ (fun hHeld => ?_)
  clear hK K
  refine norm_ (a' := ?_) ?_ ?_
  rotate_left
  ·show Act.put _ (some 43) _ = _
   simp only [Act.put, List.setIfInBounds_toArray, List.set_cons_zero, List.set_cons_succ, i64_w, i32_w]
   rfl
  refine pure_ (i := 31) (N := some 44) (v := ?_) (a' := ?_) (hte_lb 34 4294967295) rfl rfl (any_of HT_.out (by kernel_rfl)) (fun _ _ _ h => h) (Or.inl ⟨by rfl, ?_⟩) ?_ ?_; rotate_left
  ·intro w'; go_simp; with_reducible rfl
  rotate_left
  ·simp only [Act.put, List.setIfInBounds_toArray, List.set_cons_zero, List.set_cons_succ, i64_w, i32_w]; rfl
  refine pure_ (i := 32) (N := some 45) (v := ?_) (a' := ?_) (hte_lb 34 8589934591) rfl rfl (any_of HT_.out (by kernel_rfl)) (fun _ _ _ h => h) (Or.inl ⟨by rfl, ?_⟩) ?_ ?_; rotate_left
  ·intro w'; go_simp; with_reducible rfl
  rotate_left
  ·simp only [Act.put, List.setIfInBounds_toArray, List.set_cons_zero, List.set_cons_succ, i64_w, i32_w]; rfl
  refine pure_ (i := 33) (N := some 6) (v := ?_) (a' := ?_) (hte_lb 34 17179869183) rfl rfl (any_of HT_.out (by kernel_rfl)) (fun _ _ _ h => h) (Or.inl ⟨by rfl, ?_⟩) ?_ ?_; rotate_left
  ·intro w'; go_simp; with_reducible rfl
  rotate_left
  ·simp only [Act.put, List.setIfInBounds_toArray, List.set_cons_zero, List.set_cons_succ, i64_w, i32_w]; rfl
  refine done_ (done_of HT_.out (by kernel_rfl)) ?_
  go_wp2
  go_ret
  exact ⟨by first | rfl | (simp [*]; done), by repeat (first | (with_reducible first | exact HB.out | apply below_alloc | apply pw_below_drewN | apply below_drew1) | exact HB.out)⟩
def corrielaw19_HistoryTells.f (k : Nat) (l0 : List S31) (a1 : Int) (a2_0 : Int) (a2_1 : Int) (a2_2 : Int) (a2_3 : Int) (a2_4 : Int) (a2_5 : Int) (a2_6 : Int) (a2_7 : Int) (a2_8 : Int) (a2_9 : Int) (a2_10 : Bool) (a2_11 : Int) (l2_12 : List S49) : Option Bool := corrielaw19_HistoryTells.g k l0 a1 ⟨a2_0, a2_1, a2_2, a2_3, a2_4, ⟨a2_5, a2_6, a2_7, a2_8⟩, ⟨a2_9, a2_10, a2_11, l2_12⟩⟩
theorem corrielaw19_HistoryTells.mono : ∀ l0 a1 a2_0 a2_1 a2_2 a2_3 a2_4 a2_5 a2_6 a2_7 a2_8 a2_9 a2_10 a2_11 l2_12 k, LeO (corrielaw19_HistoryTells.f k l0 a1 a2_0 a2_1 a2_2 a2_3 a2_4 a2_5 a2_6 a2_7 a2_8 a2_9 a2_10 a2_11 l2_12) (corrielaw19_HistoryTells.f (k + 1) l0 a1 a2_0 a2_1 a2_2 a2_3 a2_4 a2_5 a2_6 a2_7 a2_8 a2_9 a2_10 a2_11 l2_12) := by
 intros
 exact corrielaw19_HistoryTells.gmono _ _ _ _
theorem corrielaw19_HistoryTells.calls (k : Nat) (A0 : Option Addr) (c0 : Nat) (l0 : List S31) (a1 : Int) (a2_0 : Int) (a2_1 : Int) (a2_2 : Int) (a2_3 : Int) (a2_4 : Int) (a2_5 : Int) (a2_6 : Int) (a2_7 : Int) (a2_8 : Int) (a2_9 : Int) (a2_10 : Bool) (a2_11 : Int) (A2_12 : Option Addr) (c2_12 : Nat) (l2_12 : List S49) (r : Bool) (w : World) (hr0 : Kd.C k31 w A0 l0.length l0) (hc0 : l0.length ≤ c0) (hr2_12 : Kd.C k49 w A2_12 l2_12.length l2_12) (hc2_12 : l2_12.length ≤ c2_12) (h : corrielaw19_HistoryTells.f k l0 a1 a2_0 a2_1 a2_2 a2_3 a2_4 a2_5 a2_6 a2_7 a2_8 a2_9 a2_10 a2_11 l2_12 = some r) :
  Calls Try.prog 3 #[.slice A0 l0.length c0, .int .i64 a1, .agg #[.int .i64 a2_0, .int .i64 a2_1, .int .i64 a2_2, .int .i64 a2_3, .int .i64 a2_4, .int .i64 a2_5, .int .u64 a2_6, .int .u64 a2_7, .int .i64 a2_8, .int .i64 a2_9, .bool a2_10, .int .u64 a2_11, .slice A2_12 l2_12.length c2_12]] w fun e w' => e = .returned (.bool r) ∧ Below w.heap.size w w' := by
 exact corrielaw19_HistoryTells.law k A0 c0 l0 a1 ⟨a2_0, a2_1, a2_2, a2_3, a2_4, ⟨a2_5, a2_6, a2_7, a2_8⟩, ⟨a2_9, a2_10, a2_11, l2_12⟩⟩ A2_12 c2_12 r w hr0 hc0 hr2_12 hc2_12 h


end Go.Proofs.Ytpcmoclohepdiad.PHistoryTells
