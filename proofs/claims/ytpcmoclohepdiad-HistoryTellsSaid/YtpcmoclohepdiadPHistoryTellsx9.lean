-- Written by a program of this session: a variant of the print that takes proofs by hand (wip/tools/mkprint.py)
import Derived.Test.YtpcmoclohepdiadPHistoryTellsx0
namespace Go.Proofs.Ytpcmoclohepdiad.PHistoryTells
open Go.RowKit Go.Proofs.YtpcmoclohepdiadW.PrintWords Go.Proofs.YtpcmoclohepdiadW.PrintLast
set_option linter.unusedVariables false
set_option linter.unusedSimpArgs false

/-! ### corrieref19_Size: function 16 -/
mutual
def corrieref19_Size.l0 : Nat → List (S31) → Int → Int → Int → Option (Int)
 | 0, _, _, _, _ => none
 | k + 1, x0, x1, x5, x6 => if x6 < (x0.length : Int) then (if 0 ≤ x6 then (if ((rd_T31 x0 x6).f3) ≥ 0 then (corrieref19_Size.j1 k x0 x1 x5 x6 (decide (((rd_T31 x0 x6).f3) < x1)) ((rd_T31 x0 x6).f0) ((rd_T31 x0 x6).f1) ((rd_T31 x0 x6).f2) ((rd_T31 x0 x6).f3) ((rd_T31 x0 x6).f4) ((rd_T31 x0 x6).f5.f0) ((rd_T31 x0 x6).f5.f1) ((rd_T31 x0 x6).f5.f2) ((rd_T31 x0 x6).f5.f3) ((rd_T31 x0 x6).f6.f0) ((rd_T31 x0 x6).f6.f1) ((rd_T31 x0 x6).f6.f2) ((rd_T31 x0 x6).f6.f3)) else (corrieref19_Size.j1 k x0 x1 x5 x6 false ((rd_T31 x0 x6).f0) ((rd_T31 x0 x6).f1) ((rd_T31 x0 x6).f2) ((rd_T31 x0 x6).f3) ((rd_T31 x0 x6).f4) ((rd_T31 x0 x6).f5.f0) ((rd_T31 x0 x6).f5.f1) ((rd_T31 x0 x6).f5.f2) ((rd_T31 x0 x6).f5.f3) ((rd_T31 x0 x6).f6.f0) ((rd_T31 x0 x6).f6.f1) ((rd_T31 x0 x6).f6.f2) ((rd_T31 x0 x6).f6.f3))) else (none)) else (some x5)
def corrieref19_Size.j1 : Nat → List (S31) → Int → Int → Int → Bool → Int → Int → Int → Int → Int → Int → Int → Int → Int → Int → Bool → Int → List (S49) → Option (Int)
 | 0, _, _, _, _, _, _, _, _, _, _, _, _, _, _, _, _, _, _ => none
 | k + 1, x0, x1, x5, x6, x8, x117000, x117001, x117002, x117003, x117004, x117005, x117006, x117007, x117008, x117009, x117010, x117011, x117012 => if x8 = true then (if x117010 = true then (corrieref19_Size.j2 k x0 x1 x5 x6 x8 (x117005 == 1) x117000 x117001 x117002 x117003 x117004 x117005 x117006 x117007 x117008 x117009 x117010 x117011 x117012) else (corrieref19_Size.j2 k x0 x1 x5 x6 x8 false x117000 x117001 x117002 x117003 x117004 x117005 x117006 x117007 x117008 x117009 x117010 x117011 x117012)) else (corrieref19_Size.j2 k x0 x1 x5 x6 x8 false x117000 x117001 x117002 x117003 x117004 x117005 x117006 x117007 x117008 x117009 x117010 x117011 x117012)
def corrieref19_Size.j2 : Nat → List (S31) → Int → Int → Int → Bool → Bool → Int → Int → Int → Int → Int → Int → Int → Int → Int → Int → Bool → Int → List (S49) → Option (Int)
 | 0, _, _, _, _, _, _, _, _, _, _, _, _, _, _, _, _, _, _, _ => none
 | k + 1, x0, x1, x5, x6, x8, x39, x117000, x117001, x117002, x117003, x117004, x117005, x117006, x117007, x117008, x117009, x117010, x117011, x117012 => if x39 = true then (corrieref19_Size.j3 k x0 x1 (wrap64 (x5 + 1)) x6 x8 x117000 x117001 x117002 x117003 x117004 x117005 x117006 x117007 x117008 x117009 x117010 x117011 x117012) else (corrieref19_Size.j3 k x0 x1 x5 x6 x8 x117000 x117001 x117002 x117003 x117004 x117005 x117006 x117007 x117008 x117009 x117010 x117011 x117012)
def corrieref19_Size.j3 : Nat → List (S31) → Int → Int → Int → Bool → Int → Int → Int → Int → Int → Int → Int → Int → Int → Int → Bool → Int → List (S49) → Option (Int)
 | 0, _, _, _, _, _, _, _, _, _, _, _, _, _, _, _, _, _, _ => none
 | k + 1, x0, x1, x5, x6, x8, x117000, x117001, x117002, x117003, x117004, x117005, x117006, x117007, x117008, x117009, x117010, x117011, x117012 => if x8 = true then (if x117010 = true then (corrieref19_Size.j4 k x0 x1 x5 x6 x8 (x117005 == 2) x117000 x117001 x117002 x117003 x117004 x117005 x117006 x117007 x117008 x117009 x117010 x117011 x117012) else (corrieref19_Size.j4 k x0 x1 x5 x6 x8 false x117000 x117001 x117002 x117003 x117004 x117005 x117006 x117007 x117008 x117009 x117010 x117011 x117012)) else (corrieref19_Size.j4 k x0 x1 x5 x6 x8 false x117000 x117001 x117002 x117003 x117004 x117005 x117006 x117007 x117008 x117009 x117010 x117011 x117012)
def corrieref19_Size.j4 : Nat → List (S31) → Int → Int → Int → Bool → Bool → Int → Int → Int → Int → Int → Int → Int → Int → Int → Int → Bool → Int → List (S49) → Option (Int)
 | 0, _, _, _, _, _, _, _, _, _, _, _, _, _, _, _, _, _, _, _ => none
 | k + 1, x0, x1, x5, x6, x8, x53, x117000, x117001, x117002, x117003, x117004, x117005, x117006, x117007, x117008, x117009, x117010, x117011, x117012 => if x53 = true then (if x8 = true then (corrieref19_Size.l0 k x0 x1 (wrap64 (x5 - 1)) (wrap64 (x6 + 1))) else (if x117002 ≤ x1 then (corrieref19_Size.l0 k x0 x1 (wrap64 ((wrap64 (x5 - 1)) + 1)) (wrap64 (x6 + 1))) else (corrieref19_Size.l0 k x0 x1 (wrap64 (x5 - 1)) (wrap64 (x6 + 1))))) else (if x8 = true then (corrieref19_Size.l0 k x0 x1 x5 (wrap64 (x6 + 1))) else (if x117002 ≤ x1 then (corrieref19_Size.l0 k x0 x1 (wrap64 (x5 + 1)) (wrap64 (x6 + 1))) else (corrieref19_Size.l0 k x0 x1 x5 (wrap64 (x6 + 1)))))
end
def corrieref19_Size.f (k : Nat) (l0 : List (S31)) (a1 : Int) : Option (Int) := corrieref19_Size.l0 k l0 a1 0 0
theorem corrieref19_Size.mono_l : ∀ k, (∀ y0 y1 y2 y3, LeO (corrieref19_Size.l0 k y0 y1 y2 y3) (corrieref19_Size.l0 (k + 1) y0 y1 y2 y3)) ∧ (∀ y0 y1 y2 y3 y4 y5 y6 y7 y8 y9 y10 y11 y12 y13 y14 y15 y16 y17, LeO (corrieref19_Size.j1 k y0 y1 y2 y3 y4 y5 y6 y7 y8 y9 y10 y11 y12 y13 y14 y15 y16 y17) (corrieref19_Size.j1 (k + 1) y0 y1 y2 y3 y4 y5 y6 y7 y8 y9 y10 y11 y12 y13 y14 y15 y16 y17)) ∧ (∀ y0 y1 y2 y3 y4 y5 y6 y7 y8 y9 y10 y11 y12 y13 y14 y15 y16 y17 y18, LeO (corrieref19_Size.j2 k y0 y1 y2 y3 y4 y5 y6 y7 y8 y9 y10 y11 y12 y13 y14 y15 y16 y17 y18) (corrieref19_Size.j2 (k + 1) y0 y1 y2 y3 y4 y5 y6 y7 y8 y9 y10 y11 y12 y13 y14 y15 y16 y17 y18)) ∧ (∀ y0 y1 y2 y3 y4 y5 y6 y7 y8 y9 y10 y11 y12 y13 y14 y15 y16 y17, LeO (corrieref19_Size.j3 k y0 y1 y2 y3 y4 y5 y6 y7 y8 y9 y10 y11 y12 y13 y14 y15 y16 y17) (corrieref19_Size.j3 (k + 1) y0 y1 y2 y3 y4 y5 y6 y7 y8 y9 y10 y11 y12 y13 y14 y15 y16 y17)) ∧ (∀ y0 y1 y2 y3 y4 y5 y6 y7 y8 y9 y10 y11 y12 y13 y14 y15 y16 y17 y18, LeO (corrieref19_Size.j4 k y0 y1 y2 y3 y4 y5 y6 y7 y8 y9 y10 y11 y12 y13 y14 y15 y16 y17 y18) (corrieref19_Size.j4 (k + 1) y0 y1 y2 y3 y4 y5 y6 y7 y8 y9 y10 y11 y12 y13 y14 y15 y16 y17 y18))
 | 0 => ⟨fun _ _ _ _ r h => by simp [corrieref19_Size.l0] at h, fun _ _ _ _ _ _ _ _ _ _ _ _ _ _ _ _ _ _ r h => by simp [corrieref19_Size.j1] at h, fun _ _ _ _ _ _ _ _ _ _ _ _ _ _ _ _ _ _ _ r h => by simp [corrieref19_Size.j2] at h, fun _ _ _ _ _ _ _ _ _ _ _ _ _ _ _ _ _ _ r h => by simp [corrieref19_Size.j3] at h, fun _ _ _ _ _ _ _ _ _ _ _ _ _ _ _ _ _ _ _ r h => by simp [corrieref19_Size.j4] at h⟩
 | k + 1 => by
  obtain ⟨ih0, ih1, ih2, ih3, ih4⟩ := corrieref19_Size.mono_l k
  refine ⟨?_, ?_, ?_, ?_, ?_⟩
  ·intro y0 y1 y2 y3
   unfold corrieref19_Size.l0
   repeat' first
   | (with_reducible exact ih0 _ _ _ _)
   | (with_reducible exact ih1 _ _ _ _ _ _ _ _ _ _ _ _ _ _ _ _ _ _)
   | (with_reducible exact ih2 _ _ _ _ _ _ _ _ _ _ _ _ _ _ _ _ _ _ _)
   | (with_reducible exact ih3 _ _ _ _ _ _ _ _ _ _ _ _ _ _ _ _ _ _)
   | (with_reducible exact ih4 _ _ _ _ _ _ _ _ _ _ _ _ _ _ _ _ _ _ _)
   | (with_reducible exact LeO.refl _)
   | (with_reducible exact LeO.none _)
   | (with_reducible refine LeO.ite ?_ ?_)
   | (with_reducible refine LeO.bind ?_ (fun _ => ?_))
   | exact ih0 _ _ _ _
   | exact ih1 _ _ _ _ _ _ _ _ _ _ _ _ _ _ _ _ _ _
   | exact ih2 _ _ _ _ _ _ _ _ _ _ _ _ _ _ _ _ _ _ _
   | exact ih3 _ _ _ _ _ _ _ _ _ _ _ _ _ _ _ _ _ _
   | exact ih4 _ _ _ _ _ _ _ _ _ _ _ _ _ _ _ _ _ _ _
   | exact LeO.none _
   | refine LeO.ite ?_ ?_
   | refine LeO.bind ?_ (fun _ => ?_)
  ·intro y0 y1 y2 y3 y4 y5 y6 y7 y8 y9 y10 y11 y12 y13 y14 y15 y16 y17
   unfold corrieref19_Size.j1
   repeat' first
   | (with_reducible exact ih0 _ _ _ _)
   | (with_reducible exact ih1 _ _ _ _ _ _ _ _ _ _ _ _ _ _ _ _ _ _)
   | (with_reducible exact ih2 _ _ _ _ _ _ _ _ _ _ _ _ _ _ _ _ _ _ _)
   | (with_reducible exact ih3 _ _ _ _ _ _ _ _ _ _ _ _ _ _ _ _ _ _)
   | (with_reducible exact ih4 _ _ _ _ _ _ _ _ _ _ _ _ _ _ _ _ _ _ _)
   | (with_reducible exact LeO.refl _)
   | (with_reducible exact LeO.none _)
   | (with_reducible refine LeO.ite ?_ ?_)
   | (with_reducible refine LeO.bind ?_ (fun _ => ?_))
   | exact ih0 _ _ _ _
   | exact ih1 _ _ _ _ _ _ _ _ _ _ _ _ _ _ _ _ _ _
   | exact ih2 _ _ _ _ _ _ _ _ _ _ _ _ _ _ _ _ _ _ _
   | exact ih3 _ _ _ _ _ _ _ _ _ _ _ _ _ _ _ _ _ _
   | exact ih4 _ _ _ _ _ _ _ _ _ _ _ _ _ _ _ _ _ _ _
   | exact LeO.none _
   | refine LeO.ite ?_ ?_
   | refine LeO.bind ?_ (fun _ => ?_)
  ·intro y0 y1 y2 y3 y4 y5 y6 y7 y8 y9 y10 y11 y12 y13 y14 y15 y16 y17 y18
   unfold corrieref19_Size.j2
   repeat' first
   | (with_reducible exact ih0 _ _ _ _)
   | (with_reducible exact ih1 _ _ _ _ _ _ _ _ _ _ _ _ _ _ _ _ _ _)
   | (with_reducible exact ih2 _ _ _ _ _ _ _ _ _ _ _ _ _ _ _ _ _ _ _)
   | (with_reducible exact ih3 _ _ _ _ _ _ _ _ _ _ _ _ _ _ _ _ _ _)
   | (with_reducible exact ih4 _ _ _ _ _ _ _ _ _ _ _ _ _ _ _ _ _ _ _)
   | (with_reducible exact LeO.refl _)
   | (with_reducible exact LeO.none _)
   | (with_reducible refine LeO.ite ?_ ?_)
   | (with_reducible refine LeO.bind ?_ (fun _ => ?_))
   | exact ih0 _ _ _ _
   | exact ih1 _ _ _ _ _ _ _ _ _ _ _ _ _ _ _ _ _ _
   | exact ih2 _ _ _ _ _ _ _ _ _ _ _ _ _ _ _ _ _ _ _
   | exact ih3 _ _ _ _ _ _ _ _ _ _ _ _ _ _ _ _ _ _
   | exact ih4 _ _ _ _ _ _ _ _ _ _ _ _ _ _ _ _ _ _ _
   | exact LeO.none _
   | refine LeO.ite ?_ ?_
   | refine LeO.bind ?_ (fun _ => ?_)
  ·intro y0 y1 y2 y3 y4 y5 y6 y7 y8 y9 y10 y11 y12 y13 y14 y15 y16 y17
   unfold corrieref19_Size.j3
   repeat' first
   | (with_reducible exact ih0 _ _ _ _)
   | (with_reducible exact ih1 _ _ _ _ _ _ _ _ _ _ _ _ _ _ _ _ _ _)
   | (with_reducible exact ih2 _ _ _ _ _ _ _ _ _ _ _ _ _ _ _ _ _ _ _)
   | (with_reducible exact ih3 _ _ _ _ _ _ _ _ _ _ _ _ _ _ _ _ _ _)
   | (with_reducible exact ih4 _ _ _ _ _ _ _ _ _ _ _ _ _ _ _ _ _ _ _)
   | (with_reducible exact LeO.refl _)
   | (with_reducible exact LeO.none _)
   | (with_reducible refine LeO.ite ?_ ?_)
   | (with_reducible refine LeO.bind ?_ (fun _ => ?_))
   | exact ih0 _ _ _ _
   | exact ih1 _ _ _ _ _ _ _ _ _ _ _ _ _ _ _ _ _ _
   | exact ih2 _ _ _ _ _ _ _ _ _ _ _ _ _ _ _ _ _ _ _
   | exact ih3 _ _ _ _ _ _ _ _ _ _ _ _ _ _ _ _ _ _
   | exact ih4 _ _ _ _ _ _ _ _ _ _ _ _ _ _ _ _ _ _ _
   | exact LeO.none _
   | refine LeO.ite ?_ ?_
   | refine LeO.bind ?_ (fun _ => ?_)
  ·intro y0 y1 y2 y3 y4 y5 y6 y7 y8 y9 y10 y11 y12 y13 y14 y15 y16 y17 y18
   unfold corrieref19_Size.j4
   repeat' first
   | (with_reducible exact ih0 _ _ _ _)
   | (with_reducible exact ih1 _ _ _ _ _ _ _ _ _ _ _ _ _ _ _ _ _ _)
   | (with_reducible exact ih2 _ _ _ _ _ _ _ _ _ _ _ _ _ _ _ _ _ _ _)
   | (with_reducible exact ih3 _ _ _ _ _ _ _ _ _ _ _ _ _ _ _ _ _ _)
   | (with_reducible exact ih4 _ _ _ _ _ _ _ _ _ _ _ _ _ _ _ _ _ _ _)
   | (with_reducible exact LeO.refl _)
   | (with_reducible exact LeO.none _)
   | (with_reducible refine LeO.ite ?_ ?_)
   | (with_reducible refine LeO.bind ?_ (fun _ => ?_))
   | exact ih0 _ _ _ _
   | exact ih1 _ _ _ _ _ _ _ _ _ _ _ _ _ _ _ _ _ _
   | exact ih2 _ _ _ _ _ _ _ _ _ _ _ _ _ _ _ _ _ _ _
   | exact ih3 _ _ _ _ _ _ _ _ _ _ _ _ _ _ _ _ _ _
   | exact ih4 _ _ _ _ _ _ _ _ _ _ _ _ _ _ _ _ _ _ _
   | exact LeO.none _
   | refine LeO.ite ?_ ?_
   | refine LeO.bind ?_ (fun _ => ?_)
theorem corrieref19_Size.mono : ∀ a0 a1 k, LeO (corrieref19_Size.f k a0 a1) (corrieref19_Size.f (k + 1) a0 a1) := by
 intro a0 a1 k
 obtain ⟨ih0, ih1, ih2, ih3, ih4⟩ := corrieref19_Size.mono_l k
 unfold corrieref19_Size.f
 repeat' first
   | (with_reducible exact ih0 _ _ _ _)
   | (with_reducible exact ih1 _ _ _ _ _ _ _ _ _ _ _ _ _ _ _ _ _ _)
   | (with_reducible exact ih2 _ _ _ _ _ _ _ _ _ _ _ _ _ _ _ _ _ _ _)
   | (with_reducible exact ih3 _ _ _ _ _ _ _ _ _ _ _ _ _ _ _ _ _ _)
   | (with_reducible exact ih4 _ _ _ _ _ _ _ _ _ _ _ _ _ _ _ _ _ _ _)
   | (with_reducible exact LeO.refl _)
   | (with_reducible exact LeO.none _)
   | (with_reducible refine LeO.ite ?_ ?_)
   | (with_reducible refine LeO.bind ?_ (fun _ => ?_))
   | exact ih0 _ _ _ _
   | exact ih1 _ _ _ _ _ _ _ _ _ _ _ _ _ _ _ _ _ _
   | exact ih2 _ _ _ _ _ _ _ _ _ _ _ _ _ _ _ _ _ _ _
   | exact ih3 _ _ _ _ _ _ _ _ _ _ _ _ _ _ _ _ _ _
   | exact ih4 _ _ _ _ _ _ _ _ _ _ _ _ _ _ _ _ _ _ _
   | exact LeO.none _
   | refine LeO.ite ?_ ?_
   | refine LeO.bind ?_ (fun _ => ?_)
set_option maxHeartbeats 8000000 in
set_option maxRecDepth 100000 in
theorem corrieref19_Size.calls (k : Nat) (A0 : Option Addr) (c0 : Nat) (l0 : List (S31)) (a1 : Int) (r : Int) (w : World) (hr0 : Kd.C k31 w A0 l0.length l0) (hc0 : l0.length ≤ c0) (h : corrieref19_Size.f k l0 a1 = some r) :
  Calls Try.prog 16 #[.slice A0 l0.length c0, .int .i64 a1] w fun e w' => e = .returned (.int .i64 r) ∧ Below w.heap.size w w' := by
 have hu31 := Try.underlying31
 have HR0 := Aside0.mk hr0
 have HC0 := Aside0.mk hc0
 clear hr0 hc0
 have HB := Aside0.mk (Below.refl w.heap.size w)
 have H : (corrieref19_Size.l0 k l0 a1 0 0) = some r := h
 clear h
 have H' := Aside0.mk H
 clear H
 go_enter Try.func16, Try.ntmps16
 go_wp2
 go_loopg [5, 6] k (fun kq v5 v6 w' => ∃ (x5_1 : Int) (x6_1 : Int), v5 = .int .i64 x5_1 ∧ v6 = .int .i64 x6_1 ∧ Aside0 (corrieref19_Size.l0 kq l0 a1 x5_1 x6_1 = some r) ∧ Aside0 (kq ≤ k) ∧ Aside0 (Below w.heap.size w w'))
 case atStart => exact ⟨(0), (0), (by first | rfl | (simp; done) | (simp [*]; done)), (by first | rfl | (simp; done) | (simp [*]; done)), H', ⟨Nat.le_refl _⟩, ⟨by repeat (first | (with_reducible first | exact HB.out | apply below_alloc | apply pw_below_drewN | apply below_drew1) | exact HB.out)⟩⟩
 case round =>
  clear H'
  try clear c1
  try clear p2
  obtain ⟨x5_1, x6_1, rfl, rfl, HA, HK1, HB⟩ := hrel
  cases gk with
  | zero => exact absurd HA.out (by simp [corrieref19_Size.l0])
  | succ k1 =>
   have H := HA.out
   clear HA
   simp only [corrieref19_Size.l0] at H
   by_cases c3 : x6_1 < (l0.length : Int)
   ·rw [if_pos c3] at H
    have c3b0 : decide (x6_1 < (l0.length : Int)) = true := decide_eq_true c3
    clear c3
    by_cases c4 : 0 ≤ x6_1
    ·rw [if_pos c4] at H
     have c4b0 : decide (0 ≤ x6_1) = true := decide_eq_true c4
     clear c4
     have HC5 := Aside0.mk H
     clear H
     have p115 : 0 ≤ (x6_1 : Int) := of_decide_eq_true (by first | (with_reducible assumption) | assumption)
     have q115 : x6_1 < (l0.length : Int) := of_decide_eq_true (by first | (with_reducible assumption) | assumption)
     obtain ⟨ad115, A115_12, c115_12, e115, hx115_0, hx115_1, hx115_2, hx115_3, hx115_4, hx115_5, hx115_6, hx115_7, hx115_8, hx115_9, hx115_10, hx115_11, hx115_12, hl115_12, hi115_12⟩ := at_T31 HR0.out x6_1 p115 q115
     cases e115
     replace hx115_0 := (HB.out.cell (World.block_lt_of_cell? w _ hx115_0)).trans hx115_0
     replace hx115_1 := (HB.out.cell (World.block_lt_of_cell? w _ hx115_1)).trans hx115_1
     replace hx115_2 := (HB.out.cell (World.block_lt_of_cell? w _ hx115_2)).trans hx115_2
     replace hx115_3 := (HB.out.cell (World.block_lt_of_cell? w _ hx115_3)).trans hx115_3
     replace hx115_4 := (HB.out.cell (World.block_lt_of_cell? w _ hx115_4)).trans hx115_4
     replace hx115_5 := (HB.out.cell (World.block_lt_of_cell? w _ hx115_5)).trans hx115_5
     replace hx115_6 := (HB.out.cell (World.block_lt_of_cell? w _ hx115_6)).trans hx115_6
     replace hx115_7 := (HB.out.cell (World.block_lt_of_cell? w _ hx115_7)).trans hx115_7
     replace hx115_8 := (HB.out.cell (World.block_lt_of_cell? w _ hx115_8)).trans hx115_8
     replace hx115_9 := (HB.out.cell (World.block_lt_of_cell? w _ hx115_9)).trans hx115_9
     replace hx115_10 := (HB.out.cell (World.block_lt_of_cell? w _ hx115_10)).trans hx115_10
     replace hx115_11 := (HB.out.cell (World.block_lt_of_cell? w _ hx115_11)).trans hx115_11
     replace hx115_12 := (HB.out.cell (World.block_lt_of_cell? w _ hx115_12)).trans hx115_12
     have HR115_12 := Aside0.mk hi115_12
     have HC115_12 := Aside0.mk hl115_12
     clear hi115_12 hl115_12
     replace p115 := eq_true p115
     replace q115 := eq_true q115
     go_upto_region 6 with (first | ((with_reducible refine gate_dst (N := 7) rfl ?_); refine box_event ?hg (N := 7) ?hd (cs := #[.int .i64 0, .int .i64 0, .int .i64 0, .int .i64 0, .int .i64 0, .int .i64 0, .int .u64 0, .int .u64 0, .int .i64 0, .int .i64 0, .bool false, .int .u64 0, .slice none 0 0]) (t := 31) ?hr ?_; (case hd => rfl); (case hg => rfl); (case hr => first | (go_simp; done) | (go_simp; rfl)); intro gb116 hg w6 hbox hb; have n0_ := Aside0.mk (below_step (by repeat (first | (with_reducible first | exact HB.out | apply below_alloc | apply pw_below_drewN | apply below_drew1) | exact HB.out)) hb); have n1_ := Aside0.mk (hbox); have n2_ := Aside0.mk ((by rw [hg]; exact (below_size (by repeat (first | (with_reducible first | exact HB.out | apply below_alloc | apply pw_below_drewN | apply below_drew1) | exact HB.out))) : w.heap.size ≤ gb116)); have n3_ := Aside0.mk ((by rw [hg]; exact (below_size (by repeat (first | (with_reducible first | exact HB.out | apply below_alloc | apply pw_below_drewN | apply below_drew1) | exact HB.out))) : w.heap.size ≤ gb116)); clear HB; have HB := n0_; have BK116 := n1_; have GW116 := n2_; have GE116 := n3_; clear n0_ n1_ n2_ n3_; clear hb hbox hg; have hcz7_0 : w6.cell? ⟨gb116, 0, none⟩ = some (.int .i64 0) := (blk_cell BK116.out 0).trans rfl; have hcz7_1 : w6.cell? ⟨gb116, 1, none⟩ = some (.int .i64 0) := (blk_cell BK116.out 1).trans rfl; have hcz7_2 : w6.cell? ⟨gb116, 2, none⟩ = some (.int .i64 0) := (blk_cell BK116.out 2).trans rfl; have hcz7_3 : w6.cell? ⟨gb116, 3, none⟩ = some (.int .i64 0) := (blk_cell BK116.out 3).trans rfl; have hcz7_4 : w6.cell? ⟨gb116, 4, none⟩ = some (.int .i64 0) := (blk_cell BK116.out 4).trans rfl; have hcz7_5 : w6.cell? ⟨gb116, 5, none⟩ = some (.int .i64 0) := (blk_cell BK116.out 5).trans rfl; have hcz7_6 : w6.cell? ⟨gb116, 6, none⟩ = some (.int .u64 0) := (blk_cell BK116.out 6).trans rfl; have hcz7_7 : w6.cell? ⟨gb116, 7, none⟩ = some (.int .u64 0) := (blk_cell BK116.out 7).trans rfl; have hcz7_8 : w6.cell? ⟨gb116, 8, none⟩ = some (.int .i64 0) := (blk_cell BK116.out 8).trans rfl; have hcz7_9 : w6.cell? ⟨gb116, 9, none⟩ = some (.int .i64 0) := (blk_cell BK116.out 9).trans rfl; have hcz7_10 : w6.cell? ⟨gb116, 10, none⟩ = some (.bool false) := (blk_cell BK116.out 10).trans rfl; have hcz7_11 : w6.cell? ⟨gb116, 11, none⟩ = some (.int .u64 0) := (blk_cell BK116.out 11).trans rfl; have hcz7_12 : w6.cell? ⟨gb116, 12, none⟩ = some (.slice none 0 0) := (blk_cell BK116.out 12).trans rfl; have hfz7_0 := blk_frozen BK116.out 0; have hfz7_1 := blk_frozen BK116.out 1; have hfz7_2 := blk_frozen BK116.out 2; have hfz7_3 := blk_frozen BK116.out 3; have hfz7_4 := blk_frozen BK116.out 4; have hfz7_5 := blk_frozen BK116.out 5; have hfz7_6 := blk_frozen BK116.out 6; have hfz7_7 := blk_frozen BK116.out 7; have hfz7_8 := blk_frozen BK116.out 8; have hfz7_9 := blk_frozen BK116.out 9; have hfz7_10 := blk_frozen BK116.out 10; have hfz7_11 := blk_frozen BK116.out 11; have hfz7_12 := blk_frozen BK116.out 12))
     (try simp only [Act.put, List.setIfInBounds_toArray, List.set_cons_zero, List.set_cons_succ])
     go_cut [8] (fun v8 wc => ∃ (kq : Nat) (x8_4 : Bool), v8 = .bool x8_4 ∧ Aside0 (corrieref19_Size.j1 kq l0 a1 x5_1 x6_1 x8_4 ((rd_T31 l0 x6_1).f0) ((rd_T31 l0 x6_1).f1) ((rd_T31 l0 x6_1).f2) ((rd_T31 l0 x6_1).f3) ((rd_T31 l0 x6_1).f4) ((rd_T31 l0 x6_1).f5.f0) ((rd_T31 l0 x6_1).f5.f1) ((rd_T31 l0 x6_1).f5.f2) ((rd_T31 l0 x6_1).f5.f3) ((rd_T31 l0 x6_1).f6.f0) ((rd_T31 l0 x6_1).f6.f1) ((rd_T31 l0 x6_1).f6.f2) ((rd_T31 l0 x6_1).f6.f3) = some r) ∧ Aside0 (kq ≤ k1) ∧ Aside0 (wc.heap[gb116]? = some (.cells #[.int .i64 ((rd_T31 l0 x6_1).f0), .int .i64 ((rd_T31 l0 x6_1).f1), .int .i64 ((rd_T31 l0 x6_1).f2), .int .i64 ((rd_T31 l0 x6_1).f3), .int .i64 ((rd_T31 l0 x6_1).f4), .int .i64 ((rd_T31 l0 x6_1).f5.f0), .int .u64 ((rd_T31 l0 x6_1).f5.f1), .int .u64 ((rd_T31 l0 x6_1).f5.f2), .int .i64 ((rd_T31 l0 x6_1).f5.f3), .int .i64 ((rd_T31 l0 x6_1).f6.f0), .bool ((rd_T31 l0 x6_1).f6.f1), .int .u64 ((rd_T31 l0 x6_1).f6.f2), (.slice A115_12 ((rd_T31 l0 x6_1).f6.f3).length c115_12)] 31 (0, 0))) ∧ Aside0 (Below w.heap.size w wc))
     case first =>
      have H := HC5.out
      clear HC5
      by_cases c8 : ((rd_T31 l0 x6_1).f3) ≥ 0
      ·rw [if_pos c8] at H
       have c8b0 : decide (0 ≤ ((rd_T31 l0 x6_1).f3)) = true := decide_eq_true c8
       clear c8
       (first | rw [c8b0] | (simp only [i64_w, i32_w]; rw [c8b0]) | skip)
       have H' := Aside0.mk H
       clear H
       have hcz9_0 : w6.cell? ⟨gb116, 0, none⟩ = some (.int .i64 0) := (blk_cell BK116.out 0).trans rfl
       have hcz9_1 : w6.cell? ⟨gb116, 1, none⟩ = some (.int .i64 0) := (blk_cell BK116.out 1).trans rfl
       have hcz9_2 : w6.cell? ⟨gb116, 2, none⟩ = some (.int .i64 0) := (blk_cell BK116.out 2).trans rfl
       have hcz9_3 : w6.cell? ⟨gb116, 3, none⟩ = some (.int .i64 0) := (blk_cell BK116.out 3).trans rfl
       have hcz9_4 : w6.cell? ⟨gb116, 4, none⟩ = some (.int .i64 0) := (blk_cell BK116.out 4).trans rfl
       have hcz9_5 : w6.cell? ⟨gb116, 5, none⟩ = some (.int .i64 0) := (blk_cell BK116.out 5).trans rfl
       have hcz9_6 : w6.cell? ⟨gb116, 6, none⟩ = some (.int .u64 0) := (blk_cell BK116.out 6).trans rfl
       have hcz9_7 : w6.cell? ⟨gb116, 7, none⟩ = some (.int .u64 0) := (blk_cell BK116.out 7).trans rfl
       have hcz9_8 : w6.cell? ⟨gb116, 8, none⟩ = some (.int .i64 0) := (blk_cell BK116.out 8).trans rfl
       have hcz9_9 : w6.cell? ⟨gb116, 9, none⟩ = some (.int .i64 0) := (blk_cell BK116.out 9).trans rfl
       have hcz9_10 : w6.cell? ⟨gb116, 10, none⟩ = some (.bool false) := (blk_cell BK116.out 10).trans rfl
       have hcz9_11 : w6.cell? ⟨gb116, 11, none⟩ = some (.int .u64 0) := (blk_cell BK116.out 11).trans rfl
       have hcz9_12 : w6.cell? ⟨gb116, 12, none⟩ = some (.slice none 0 0) := (blk_cell BK116.out 12).trans rfl
       have hfz9_0 := blk_frozen BK116.out 0
       have hfz9_1 := blk_frozen BK116.out 1
       have hfz9_2 := blk_frozen BK116.out 2
       have hfz9_3 := blk_frozen BK116.out 3
       have hfz9_4 := blk_frozen BK116.out 4
       have hfz9_5 := blk_frozen BK116.out 5
       have hfz9_6 := blk_frozen BK116.out 6
       have hfz9_7 := blk_frozen BK116.out 7
       have hfz9_8 := blk_frozen BK116.out 8
       have hfz9_9 := blk_frozen BK116.out 9
       have hfz9_10 := blk_frozen BK116.out 10
       have hfz9_11 := blk_frozen BK116.out 11
       have hfz9_12 := blk_frozen BK116.out 12
       go_wp2
       go_meet
       case rel => exact ⟨_, (decide (((rd_T31 l0 x6_1).f3) < a1)), (by first | rfl | (simp; done) | (simp [*]; done)), H', ⟨by have := HK1.out; first | omega | exact Nat.le_refl _⟩, ⟨by (with_reducible repeat (first | refine blk_drewN ?_ _ | refine blk_drew ?_ | refine blk_alloc ?_ _)); refine blk_put (cs := #[.int .i64 ((rd_T31 l0 x6_1).f0), .int .i64 ((rd_T31 l0 x6_1).f1), .int .i64 ((rd_T31 l0 x6_1).f2), .int .i64 ((rd_T31 l0 x6_1).f3), .int .i64 ((rd_T31 l0 x6_1).f4), .int .i64 ((rd_T31 l0 x6_1).f5.f0), .int .u64 ((rd_T31 l0 x6_1).f5.f1), .int .u64 ((rd_T31 l0 x6_1).f5.f2), .int .i64 ((rd_T31 l0 x6_1).f5.f3), .int .i64 ((rd_T31 l0 x6_1).f6.f0), .bool ((rd_T31 l0 x6_1).f6.f1), .int .u64 ((rd_T31 l0 x6_1).f6.f2), .slice none 0 0]) ?_ 12 _ rfl; (with_reducible repeat (first | refine blk_drewN ?_ _ | refine blk_drew ?_ | refine blk_alloc ?_ _)); refine blk_put (cs := #[.int .i64 ((rd_T31 l0 x6_1).f0), .int .i64 ((rd_T31 l0 x6_1).f1), .int .i64 ((rd_T31 l0 x6_1).f2), .int .i64 ((rd_T31 l0 x6_1).f3), .int .i64 ((rd_T31 l0 x6_1).f4), .int .i64 ((rd_T31 l0 x6_1).f5.f0), .int .u64 ((rd_T31 l0 x6_1).f5.f1), .int .u64 ((rd_T31 l0 x6_1).f5.f2), .int .i64 ((rd_T31 l0 x6_1).f5.f3), .int .i64 ((rd_T31 l0 x6_1).f6.f0), .bool ((rd_T31 l0 x6_1).f6.f1), .int .u64 0, .slice none 0 0]) ?_ 11 _ rfl; (with_reducible repeat (first | refine blk_drewN ?_ _ | refine blk_drew ?_ | refine blk_alloc ?_ _)); refine blk_put (cs := #[.int .i64 ((rd_T31 l0 x6_1).f0), .int .i64 ((rd_T31 l0 x6_1).f1), .int .i64 ((rd_T31 l0 x6_1).f2), .int .i64 ((rd_T31 l0 x6_1).f3), .int .i64 ((rd_T31 l0 x6_1).f4), .int .i64 ((rd_T31 l0 x6_1).f5.f0), .int .u64 ((rd_T31 l0 x6_1).f5.f1), .int .u64 ((rd_T31 l0 x6_1).f5.f2), .int .i64 ((rd_T31 l0 x6_1).f5.f3), .int .i64 ((rd_T31 l0 x6_1).f6.f0), .bool false, .int .u64 0, .slice none 0 0]) ?_ 10 _ rfl; (with_reducible repeat (first | refine blk_drewN ?_ _ | refine blk_drew ?_ | refine blk_alloc ?_ _)); refine blk_put (cs := #[.int .i64 ((rd_T31 l0 x6_1).f0), .int .i64 ((rd_T31 l0 x6_1).f1), .int .i64 ((rd_T31 l0 x6_1).f2), .int .i64 ((rd_T31 l0 x6_1).f3), .int .i64 ((rd_T31 l0 x6_1).f4), .int .i64 ((rd_T31 l0 x6_1).f5.f0), .int .u64 ((rd_T31 l0 x6_1).f5.f1), .int .u64 ((rd_T31 l0 x6_1).f5.f2), .int .i64 ((rd_T31 l0 x6_1).f5.f3), .int .i64 0, .bool false, .int .u64 0, .slice none 0 0]) ?_ 9 _ rfl; (with_reducible repeat (first | refine blk_drewN ?_ _ | refine blk_drew ?_ | refine blk_alloc ?_ _)); refine blk_put (cs := #[.int .i64 ((rd_T31 l0 x6_1).f0), .int .i64 ((rd_T31 l0 x6_1).f1), .int .i64 ((rd_T31 l0 x6_1).f2), .int .i64 ((rd_T31 l0 x6_1).f3), .int .i64 ((rd_T31 l0 x6_1).f4), .int .i64 ((rd_T31 l0 x6_1).f5.f0), .int .u64 ((rd_T31 l0 x6_1).f5.f1), .int .u64 ((rd_T31 l0 x6_1).f5.f2), .int .i64 0, .int .i64 0, .bool false, .int .u64 0, .slice none 0 0]) ?_ 8 _ rfl; (with_reducible repeat (first | refine blk_drewN ?_ _ | refine blk_drew ?_ | refine blk_alloc ?_ _)); refine blk_put (cs := #[.int .i64 ((rd_T31 l0 x6_1).f0), .int .i64 ((rd_T31 l0 x6_1).f1), .int .i64 ((rd_T31 l0 x6_1).f2), .int .i64 ((rd_T31 l0 x6_1).f3), .int .i64 ((rd_T31 l0 x6_1).f4), .int .i64 ((rd_T31 l0 x6_1).f5.f0), .int .u64 ((rd_T31 l0 x6_1).f5.f1), .int .u64 0, .int .i64 0, .int .i64 0, .bool false, .int .u64 0, .slice none 0 0]) ?_ 7 _ rfl; (with_reducible repeat (first | refine blk_drewN ?_ _ | refine blk_drew ?_ | refine blk_alloc ?_ _)); refine blk_put (cs := #[.int .i64 ((rd_T31 l0 x6_1).f0), .int .i64 ((rd_T31 l0 x6_1).f1), .int .i64 ((rd_T31 l0 x6_1).f2), .int .i64 ((rd_T31 l0 x6_1).f3), .int .i64 ((rd_T31 l0 x6_1).f4), .int .i64 ((rd_T31 l0 x6_1).f5.f0), .int .u64 0, .int .u64 0, .int .i64 0, .int .i64 0, .bool false, .int .u64 0, .slice none 0 0]) ?_ 6 _ rfl; (with_reducible repeat (first | refine blk_drewN ?_ _ | refine blk_drew ?_ | refine blk_alloc ?_ _)); refine blk_put (cs := #[.int .i64 ((rd_T31 l0 x6_1).f0), .int .i64 ((rd_T31 l0 x6_1).f1), .int .i64 ((rd_T31 l0 x6_1).f2), .int .i64 ((rd_T31 l0 x6_1).f3), .int .i64 ((rd_T31 l0 x6_1).f4), .int .i64 0, .int .u64 0, .int .u64 0, .int .i64 0, .int .i64 0, .bool false, .int .u64 0, .slice none 0 0]) ?_ 5 _ rfl; (with_reducible repeat (first | refine blk_drewN ?_ _ | refine blk_drew ?_ | refine blk_alloc ?_ _)); refine blk_put (cs := #[.int .i64 ((rd_T31 l0 x6_1).f0), .int .i64 ((rd_T31 l0 x6_1).f1), .int .i64 ((rd_T31 l0 x6_1).f2), .int .i64 ((rd_T31 l0 x6_1).f3), .int .i64 0, .int .i64 0, .int .u64 0, .int .u64 0, .int .i64 0, .int .i64 0, .bool false, .int .u64 0, .slice none 0 0]) ?_ 4 _ rfl; (with_reducible repeat (first | refine blk_drewN ?_ _ | refine blk_drew ?_ | refine blk_alloc ?_ _)); refine blk_put (cs := #[.int .i64 ((rd_T31 l0 x6_1).f0), .int .i64 ((rd_T31 l0 x6_1).f1), .int .i64 ((rd_T31 l0 x6_1).f2), .int .i64 0, .int .i64 0, .int .i64 0, .int .u64 0, .int .u64 0, .int .i64 0, .int .i64 0, .bool false, .int .u64 0, .slice none 0 0]) ?_ 3 _ rfl; (with_reducible repeat (first | refine blk_drewN ?_ _ | refine blk_drew ?_ | refine blk_alloc ?_ _)); refine blk_put (cs := #[.int .i64 ((rd_T31 l0 x6_1).f0), .int .i64 ((rd_T31 l0 x6_1).f1), .int .i64 0, .int .i64 0, .int .i64 0, .int .i64 0, .int .u64 0, .int .u64 0, .int .i64 0, .int .i64 0, .bool false, .int .u64 0, .slice none 0 0]) ?_ 2 _ rfl; (with_reducible repeat (first | refine blk_drewN ?_ _ | refine blk_drew ?_ | refine blk_alloc ?_ _)); refine blk_put (cs := #[.int .i64 ((rd_T31 l0 x6_1).f0), .int .i64 0, .int .i64 0, .int .i64 0, .int .i64 0, .int .i64 0, .int .u64 0, .int .u64 0, .int .i64 0, .int .i64 0, .bool false, .int .u64 0, .slice none 0 0]) ?_ 1 _ rfl; (with_reducible repeat (first | refine blk_drewN ?_ _ | refine blk_drew ?_ | refine blk_alloc ?_ _)); refine blk_put (cs := #[.int .i64 0, .int .i64 0, .int .i64 0, .int .i64 0, .int .i64 0, .int .i64 0, .int .u64 0, .int .u64 0, .int .i64 0, .int .i64 0, .bool false, .int .u64 0, .slice none 0 0]) ?_ 0 _ rfl; (with_reducible repeat (first | refine blk_drewN ?_ _ | refine blk_drew ?_ | refine blk_alloc ?_ _)); exact BK116.out⟩, ⟨by repeat (first | (with_reducible first | exact HB.out | apply below_alloc | apply pw_below_drewN | apply below_drew1 | refine below_set ?_ GE116.out) | exact HB.out)⟩⟩
      ·rw [if_neg c8] at H
       have c8b0 : decide (0 ≤ ((rd_T31 l0 x6_1).f3)) = false := decide_eq_false c8
       clear c8
       (first | rw [c8b0] | (simp only [i64_w, i32_w]; rw [c8b0]) | skip)
       have H' := Aside0.mk H
       clear H
       have hcz10_0 : w6.cell? ⟨gb116, 0, none⟩ = some (.int .i64 0) := (blk_cell BK116.out 0).trans rfl
       have hcz10_1 : w6.cell? ⟨gb116, 1, none⟩ = some (.int .i64 0) := (blk_cell BK116.out 1).trans rfl
       have hcz10_2 : w6.cell? ⟨gb116, 2, none⟩ = some (.int .i64 0) := (blk_cell BK116.out 2).trans rfl
       have hcz10_3 : w6.cell? ⟨gb116, 3, none⟩ = some (.int .i64 0) := (blk_cell BK116.out 3).trans rfl
       have hcz10_4 : w6.cell? ⟨gb116, 4, none⟩ = some (.int .i64 0) := (blk_cell BK116.out 4).trans rfl
       have hcz10_5 : w6.cell? ⟨gb116, 5, none⟩ = some (.int .i64 0) := (blk_cell BK116.out 5).trans rfl
       have hcz10_6 : w6.cell? ⟨gb116, 6, none⟩ = some (.int .u64 0) := (blk_cell BK116.out 6).trans rfl
       have hcz10_7 : w6.cell? ⟨gb116, 7, none⟩ = some (.int .u64 0) := (blk_cell BK116.out 7).trans rfl
       have hcz10_8 : w6.cell? ⟨gb116, 8, none⟩ = some (.int .i64 0) := (blk_cell BK116.out 8).trans rfl
       have hcz10_9 : w6.cell? ⟨gb116, 9, none⟩ = some (.int .i64 0) := (blk_cell BK116.out 9).trans rfl
       have hcz10_10 : w6.cell? ⟨gb116, 10, none⟩ = some (.bool false) := (blk_cell BK116.out 10).trans rfl
       have hcz10_11 : w6.cell? ⟨gb116, 11, none⟩ = some (.int .u64 0) := (blk_cell BK116.out 11).trans rfl
       have hcz10_12 : w6.cell? ⟨gb116, 12, none⟩ = some (.slice none 0 0) := (blk_cell BK116.out 12).trans rfl
       have hfz10_0 := blk_frozen BK116.out 0
       have hfz10_1 := blk_frozen BK116.out 1
       have hfz10_2 := blk_frozen BK116.out 2
       have hfz10_3 := blk_frozen BK116.out 3
       have hfz10_4 := blk_frozen BK116.out 4
       have hfz10_5 := blk_frozen BK116.out 5
       have hfz10_6 := blk_frozen BK116.out 6
       have hfz10_7 := blk_frozen BK116.out 7
       have hfz10_8 := blk_frozen BK116.out 8
       have hfz10_9 := blk_frozen BK116.out 9
       have hfz10_10 := blk_frozen BK116.out 10
       have hfz10_11 := blk_frozen BK116.out 11
       have hfz10_12 := blk_frozen BK116.out 12
       go_wp2
       go_meet
       case rel => exact ⟨_, (false), (by first | rfl | (simp; done) | (simp [*]; done)), H', ⟨by have := HK1.out; first | omega | exact Nat.le_refl _⟩, ⟨by (with_reducible repeat (first | refine blk_drewN ?_ _ | refine blk_drew ?_ | refine blk_alloc ?_ _)); refine blk_put (cs := #[.int .i64 ((rd_T31 l0 x6_1).f0), .int .i64 ((rd_T31 l0 x6_1).f1), .int .i64 ((rd_T31 l0 x6_1).f2), .int .i64 ((rd_T31 l0 x6_1).f3), .int .i64 ((rd_T31 l0 x6_1).f4), .int .i64 ((rd_T31 l0 x6_1).f5.f0), .int .u64 ((rd_T31 l0 x6_1).f5.f1), .int .u64 ((rd_T31 l0 x6_1).f5.f2), .int .i64 ((rd_T31 l0 x6_1).f5.f3), .int .i64 ((rd_T31 l0 x6_1).f6.f0), .bool ((rd_T31 l0 x6_1).f6.f1), .int .u64 ((rd_T31 l0 x6_1).f6.f2), .slice none 0 0]) ?_ 12 _ rfl; (with_reducible repeat (first | refine blk_drewN ?_ _ | refine blk_drew ?_ | refine blk_alloc ?_ _)); refine blk_put (cs := #[.int .i64 ((rd_T31 l0 x6_1).f0), .int .i64 ((rd_T31 l0 x6_1).f1), .int .i64 ((rd_T31 l0 x6_1).f2), .int .i64 ((rd_T31 l0 x6_1).f3), .int .i64 ((rd_T31 l0 x6_1).f4), .int .i64 ((rd_T31 l0 x6_1).f5.f0), .int .u64 ((rd_T31 l0 x6_1).f5.f1), .int .u64 ((rd_T31 l0 x6_1).f5.f2), .int .i64 ((rd_T31 l0 x6_1).f5.f3), .int .i64 ((rd_T31 l0 x6_1).f6.f0), .bool ((rd_T31 l0 x6_1).f6.f1), .int .u64 0, .slice none 0 0]) ?_ 11 _ rfl; (with_reducible repeat (first | refine blk_drewN ?_ _ | refine blk_drew ?_ | refine blk_alloc ?_ _)); refine blk_put (cs := #[.int .i64 ((rd_T31 l0 x6_1).f0), .int .i64 ((rd_T31 l0 x6_1).f1), .int .i64 ((rd_T31 l0 x6_1).f2), .int .i64 ((rd_T31 l0 x6_1).f3), .int .i64 ((rd_T31 l0 x6_1).f4), .int .i64 ((rd_T31 l0 x6_1).f5.f0), .int .u64 ((rd_T31 l0 x6_1).f5.f1), .int .u64 ((rd_T31 l0 x6_1).f5.f2), .int .i64 ((rd_T31 l0 x6_1).f5.f3), .int .i64 ((rd_T31 l0 x6_1).f6.f0), .bool false, .int .u64 0, .slice none 0 0]) ?_ 10 _ rfl; (with_reducible repeat (first | refine blk_drewN ?_ _ | refine blk_drew ?_ | refine blk_alloc ?_ _)); refine blk_put (cs := #[.int .i64 ((rd_T31 l0 x6_1).f0), .int .i64 ((rd_T31 l0 x6_1).f1), .int .i64 ((rd_T31 l0 x6_1).f2), .int .i64 ((rd_T31 l0 x6_1).f3), .int .i64 ((rd_T31 l0 x6_1).f4), .int .i64 ((rd_T31 l0 x6_1).f5.f0), .int .u64 ((rd_T31 l0 x6_1).f5.f1), .int .u64 ((rd_T31 l0 x6_1).f5.f2), .int .i64 ((rd_T31 l0 x6_1).f5.f3), .int .i64 0, .bool false, .int .u64 0, .slice none 0 0]) ?_ 9 _ rfl; (with_reducible repeat (first | refine blk_drewN ?_ _ | refine blk_drew ?_ | refine blk_alloc ?_ _)); refine blk_put (cs := #[.int .i64 ((rd_T31 l0 x6_1).f0), .int .i64 ((rd_T31 l0 x6_1).f1), .int .i64 ((rd_T31 l0 x6_1).f2), .int .i64 ((rd_T31 l0 x6_1).f3), .int .i64 ((rd_T31 l0 x6_1).f4), .int .i64 ((rd_T31 l0 x6_1).f5.f0), .int .u64 ((rd_T31 l0 x6_1).f5.f1), .int .u64 ((rd_T31 l0 x6_1).f5.f2), .int .i64 0, .int .i64 0, .bool false, .int .u64 0, .slice none 0 0]) ?_ 8 _ rfl; (with_reducible repeat (first | refine blk_drewN ?_ _ | refine blk_drew ?_ | refine blk_alloc ?_ _)); refine blk_put (cs := #[.int .i64 ((rd_T31 l0 x6_1).f0), .int .i64 ((rd_T31 l0 x6_1).f1), .int .i64 ((rd_T31 l0 x6_1).f2), .int .i64 ((rd_T31 l0 x6_1).f3), .int .i64 ((rd_T31 l0 x6_1).f4), .int .i64 ((rd_T31 l0 x6_1).f5.f0), .int .u64 ((rd_T31 l0 x6_1).f5.f1), .int .u64 0, .int .i64 0, .int .i64 0, .bool false, .int .u64 0, .slice none 0 0]) ?_ 7 _ rfl; (with_reducible repeat (first | refine blk_drewN ?_ _ | refine blk_drew ?_ | refine blk_alloc ?_ _)); refine blk_put (cs := #[.int .i64 ((rd_T31 l0 x6_1).f0), .int .i64 ((rd_T31 l0 x6_1).f1), .int .i64 ((rd_T31 l0 x6_1).f2), .int .i64 ((rd_T31 l0 x6_1).f3), .int .i64 ((rd_T31 l0 x6_1).f4), .int .i64 ((rd_T31 l0 x6_1).f5.f0), .int .u64 0, .int .u64 0, .int .i64 0, .int .i64 0, .bool false, .int .u64 0, .slice none 0 0]) ?_ 6 _ rfl; (with_reducible repeat (first | refine blk_drewN ?_ _ | refine blk_drew ?_ | refine blk_alloc ?_ _)); refine blk_put (cs := #[.int .i64 ((rd_T31 l0 x6_1).f0), .int .i64 ((rd_T31 l0 x6_1).f1), .int .i64 ((rd_T31 l0 x6_1).f2), .int .i64 ((rd_T31 l0 x6_1).f3), .int .i64 ((rd_T31 l0 x6_1).f4), .int .i64 0, .int .u64 0, .int .u64 0, .int .i64 0, .int .i64 0, .bool false, .int .u64 0, .slice none 0 0]) ?_ 5 _ rfl; (with_reducible repeat (first | refine blk_drewN ?_ _ | refine blk_drew ?_ | refine blk_alloc ?_ _)); refine blk_put (cs := #[.int .i64 ((rd_T31 l0 x6_1).f0), .int .i64 ((rd_T31 l0 x6_1).f1), .int .i64 ((rd_T31 l0 x6_1).f2), .int .i64 ((rd_T31 l0 x6_1).f3), .int .i64 0, .int .i64 0, .int .u64 0, .int .u64 0, .int .i64 0, .int .i64 0, .bool false, .int .u64 0, .slice none 0 0]) ?_ 4 _ rfl; (with_reducible repeat (first | refine blk_drewN ?_ _ | refine blk_drew ?_ | refine blk_alloc ?_ _)); refine blk_put (cs := #[.int .i64 ((rd_T31 l0 x6_1).f0), .int .i64 ((rd_T31 l0 x6_1).f1), .int .i64 ((rd_T31 l0 x6_1).f2), .int .i64 0, .int .i64 0, .int .i64 0, .int .u64 0, .int .u64 0, .int .i64 0, .int .i64 0, .bool false, .int .u64 0, .slice none 0 0]) ?_ 3 _ rfl; (with_reducible repeat (first | refine blk_drewN ?_ _ | refine blk_drew ?_ | refine blk_alloc ?_ _)); refine blk_put (cs := #[.int .i64 ((rd_T31 l0 x6_1).f0), .int .i64 ((rd_T31 l0 x6_1).f1), .int .i64 0, .int .i64 0, .int .i64 0, .int .i64 0, .int .u64 0, .int .u64 0, .int .i64 0, .int .i64 0, .bool false, .int .u64 0, .slice none 0 0]) ?_ 2 _ rfl; (with_reducible repeat (first | refine blk_drewN ?_ _ | refine blk_drew ?_ | refine blk_alloc ?_ _)); refine blk_put (cs := #[.int .i64 ((rd_T31 l0 x6_1).f0), .int .i64 0, .int .i64 0, .int .i64 0, .int .i64 0, .int .i64 0, .int .u64 0, .int .u64 0, .int .i64 0, .int .i64 0, .bool false, .int .u64 0, .slice none 0 0]) ?_ 1 _ rfl; (with_reducible repeat (first | refine blk_drewN ?_ _ | refine blk_drew ?_ | refine blk_alloc ?_ _)); refine blk_put (cs := #[.int .i64 0, .int .i64 0, .int .i64 0, .int .i64 0, .int .i64 0, .int .i64 0, .int .u64 0, .int .u64 0, .int .i64 0, .int .i64 0, .bool false, .int .u64 0, .slice none 0 0]) ?_ 0 _ rfl; (with_reducible repeat (first | refine blk_drewN ?_ _ | refine blk_drew ?_ | refine blk_alloc ?_ _)); exact BK116.out⟩, ⟨by repeat (first | (with_reducible first | exact HB.out | apply below_alloc | apply pw_below_drewN | apply below_drew1 | refine below_set ?_ GE116.out) | exact HB.out)⟩⟩
     case rest =>
      clear HC5
      try clear c1
      try clear p1
      try clear q1
      try clear hx1
      try clear p2
      try clear c3
      try clear c3b0
      try clear c4
      try clear c4b0
      try clear c8
      try clear c8b0
      try clear hcz10_0
      try clear hcz10_1
      try clear hcz10_10
      try clear hcz10_11
      try clear hcz10_12
      try clear hcz10_2
      try clear hcz10_3
      try clear hcz10_4
      try clear hcz10_5
      try clear hcz10_6
      try clear hcz10_7
      try clear hcz10_8
      try clear hcz10_9
      try clear hcz7_0
      try clear hcz7_1
      try clear hcz7_10
      try clear hcz7_11
      try clear hcz7_12
      try clear hcz7_2
      try clear hcz7_3
      try clear hcz7_4
      try clear hcz7_5
      try clear hcz7_6
      try clear hcz7_7
      try clear hcz7_8
      try clear hcz7_9
      try clear hcz9_0
      try clear hcz9_1
      try clear hcz9_10
      try clear hcz9_11
      try clear hcz9_12
      try clear hcz9_2
      try clear hcz9_3
      try clear hcz9_4
      try clear hcz9_5
      try clear hcz9_6
      try clear hcz9_7
      try clear hcz9_8
      try clear hcz9_9
      try clear hfz10_0
      try clear hfz10_1
      try clear hfz10_10
      try clear hfz10_11
      try clear hfz10_12
      try clear hfz10_2
      try clear hfz10_3
      try clear hfz10_4
      try clear hfz10_5
      try clear hfz10_6
      try clear hfz10_7
      try clear hfz10_8
      try clear hfz10_9
      try clear hfz7_0
      try clear hfz7_1
      try clear hfz7_10
      try clear hfz7_11
      try clear hfz7_12
      try clear hfz7_2
      try clear hfz7_3
      try clear hfz7_4
      try clear hfz7_5
      try clear hfz7_6
      try clear hfz7_7
      try clear hfz7_8
      try clear hfz7_9
      try clear hfz9_0
      try clear hfz9_1
      try clear hfz9_10
      try clear hfz9_11
      try clear hfz9_12
      try clear hfz9_2
      try clear hfz9_3
      try clear hfz9_4
      try clear hfz9_5
      try clear hfz9_6
      try clear hfz9_7
      try clear hfz9_8
      try clear hfz9_9
      try clear hx115_0
      try clear hx115_1
      try clear hx115_10
      try clear hx115_11
      try clear hx115_12
      try clear hx115_2
      try clear hx115_3
      try clear hx115_4
      try clear hx115_5
      try clear hx115_6
      try clear hx115_7
      try clear hx115_8
      try clear hx115_9
      try clear p115
      try clear p2
      try clear q115
      obtain ⟨kq, x8_4, rfl, HA, HJ4, BK116, HB⟩ := hcut
      cases kq with
      | zero => exact absurd HA.out (by simp [corrieref19_Size.j1])
      | succ kj4 =>
       have H := HA.out
       clear HA
       simp only [corrieref19_Size.j1] at H
       have HC11 := Aside0.mk H
       clear H
       go_upto_region 7 with (fail)
       go_cut [39] (fun v39 wc => ∃ (kq : Nat) (x39_10 : Bool), v39 = .bool x39_10 ∧ Aside0 (corrieref19_Size.j2 kq l0 a1 x5_1 x6_1 x8_4 x39_10 ((rd_T31 l0 x6_1).f0) ((rd_T31 l0 x6_1).f1) ((rd_T31 l0 x6_1).f2) ((rd_T31 l0 x6_1).f3) ((rd_T31 l0 x6_1).f4) ((rd_T31 l0 x6_1).f5.f0) ((rd_T31 l0 x6_1).f5.f1) ((rd_T31 l0 x6_1).f5.f2) ((rd_T31 l0 x6_1).f5.f3) ((rd_T31 l0 x6_1).f6.f0) ((rd_T31 l0 x6_1).f6.f1) ((rd_T31 l0 x6_1).f6.f2) ((rd_T31 l0 x6_1).f6.f3) = some r) ∧ Aside0 (kq ≤ kj4) ∧ Aside0 (wc.heap[gb116]? = some (.cells #[.int .i64 ((rd_T31 l0 x6_1).f0), .int .i64 ((rd_T31 l0 x6_1).f1), .int .i64 ((rd_T31 l0 x6_1).f2), .int .i64 ((rd_T31 l0 x6_1).f3), .int .i64 ((rd_T31 l0 x6_1).f4), .int .i64 ((rd_T31 l0 x6_1).f5.f0), .int .u64 ((rd_T31 l0 x6_1).f5.f1), .int .u64 ((rd_T31 l0 x6_1).f5.f2), .int .i64 ((rd_T31 l0 x6_1).f5.f3), .int .i64 ((rd_T31 l0 x6_1).f6.f0), .bool ((rd_T31 l0 x6_1).f6.f1), .int .u64 ((rd_T31 l0 x6_1).f6.f2), (.slice A115_12 ((rd_T31 l0 x6_1).f6.f3).length c115_12)] 31 (0, 0))) ∧ Aside0 (Below w.heap.size w wc))
       case first =>
        have H := HC11.out
        clear HC11
        by_cases c12 : x8_4 = true
        ·subst c12
         have H1 : (if ((rd_T31 l0 x6_1).f6.f1) = true then (corrieref19_Size.j2 kj4 l0 a1 x5_1 x6_1 true (((rd_T31 l0 x6_1).f5.f0) == 1) ((rd_T31 l0 x6_1).f0) ((rd_T31 l0 x6_1).f1) ((rd_T31 l0 x6_1).f2) ((rd_T31 l0 x6_1).f3) ((rd_T31 l0 x6_1).f4) ((rd_T31 l0 x6_1).f5.f0) ((rd_T31 l0 x6_1).f5.f1) ((rd_T31 l0 x6_1).f5.f2) ((rd_T31 l0 x6_1).f5.f3) ((rd_T31 l0 x6_1).f6.f0) ((rd_T31 l0 x6_1).f6.f1) ((rd_T31 l0 x6_1).f6.f2) ((rd_T31 l0 x6_1).f6.f3)) else (corrieref19_Size.j2 kj4 l0 a1 x5_1 x6_1 true false ((rd_T31 l0 x6_1).f0) ((rd_T31 l0 x6_1).f1) ((rd_T31 l0 x6_1).f2) ((rd_T31 l0 x6_1).f3) ((rd_T31 l0 x6_1).f4) ((rd_T31 l0 x6_1).f5.f0) ((rd_T31 l0 x6_1).f5.f1) ((rd_T31 l0 x6_1).f5.f2) ((rd_T31 l0 x6_1).f5.f3) ((rd_T31 l0 x6_1).f6.f0) ((rd_T31 l0 x6_1).f6.f1) ((rd_T31 l0 x6_1).f6.f2) ((rd_T31 l0 x6_1).f6.f3))) = some r := by rw [if_pos rfl] at H; exact H
         clear H
         have H := H1
         clear H1
         by_cases c13 : ((rd_T31 l0 x6_1).f6.f1) = true
         ·rw [if_pos c13] at H
          have c13b0 : ((rd_T31 l0 x6_1).f6.f1) = true := c13
          clear c13
          (first | rw [c13b0] | (simp only [i64_w, i32_w]; rw [c13b0]) | skip)
          have H' := Aside0.mk H
          clear H
          have hcz14_0 : wc.cell? ⟨gb116, 0, none⟩ = some (.int .i64 ((rd_T31 l0 x6_1).f0)) := (blk_cell BK116.out 0).trans rfl
          have hcz14_1 : wc.cell? ⟨gb116, 1, none⟩ = some (.int .i64 ((rd_T31 l0 x6_1).f1)) := (blk_cell BK116.out 1).trans rfl
          have hcz14_2 : wc.cell? ⟨gb116, 2, none⟩ = some (.int .i64 ((rd_T31 l0 x6_1).f2)) := (blk_cell BK116.out 2).trans rfl
          have hcz14_3 : wc.cell? ⟨gb116, 3, none⟩ = some (.int .i64 ((rd_T31 l0 x6_1).f3)) := (blk_cell BK116.out 3).trans rfl
          have hcz14_4 : wc.cell? ⟨gb116, 4, none⟩ = some (.int .i64 ((rd_T31 l0 x6_1).f4)) := (blk_cell BK116.out 4).trans rfl
          have hcz14_5 : wc.cell? ⟨gb116, 5, none⟩ = some (.int .i64 ((rd_T31 l0 x6_1).f5.f0)) := (blk_cell BK116.out 5).trans rfl
          have hcz14_6 : wc.cell? ⟨gb116, 6, none⟩ = some (.int .u64 ((rd_T31 l0 x6_1).f5.f1)) := (blk_cell BK116.out 6).trans rfl
          have hcz14_7 : wc.cell? ⟨gb116, 7, none⟩ = some (.int .u64 ((rd_T31 l0 x6_1).f5.f2)) := (blk_cell BK116.out 7).trans rfl
          have hcz14_8 : wc.cell? ⟨gb116, 8, none⟩ = some (.int .i64 ((rd_T31 l0 x6_1).f5.f3)) := (blk_cell BK116.out 8).trans rfl
          have hcz14_9 : wc.cell? ⟨gb116, 9, none⟩ = some (.int .i64 ((rd_T31 l0 x6_1).f6.f0)) := (blk_cell BK116.out 9).trans rfl
          have hcz14_10 : wc.cell? ⟨gb116, 10, none⟩ = some (.bool ((rd_T31 l0 x6_1).f6.f1)) := (blk_cell BK116.out 10).trans rfl
          have hcz14_11 : wc.cell? ⟨gb116, 11, none⟩ = some (.int .u64 ((rd_T31 l0 x6_1).f6.f2)) := (blk_cell BK116.out 11).trans rfl
          have hcz14_12 : wc.cell? ⟨gb116, 12, none⟩ = some (.slice A115_12 ((rd_T31 l0 x6_1).f6.f3).length c115_12) := (blk_cell BK116.out 12).trans rfl
          have hfz14_0 := blk_frozen BK116.out 0
          have hfz14_1 := blk_frozen BK116.out 1
          have hfz14_2 := blk_frozen BK116.out 2
          have hfz14_3 := blk_frozen BK116.out 3
          have hfz14_4 := blk_frozen BK116.out 4
          have hfz14_5 := blk_frozen BK116.out 5
          have hfz14_6 := blk_frozen BK116.out 6
          have hfz14_7 := blk_frozen BK116.out 7
          have hfz14_8 := blk_frozen BK116.out 8
          have hfz14_9 := blk_frozen BK116.out 9
          have hfz14_10 := blk_frozen BK116.out 10
          have hfz14_11 := blk_frozen BK116.out 11
          have hfz14_12 := blk_frozen BK116.out 12
          go_wp2
          go_meet
          case rel => exact ⟨_, ((((rd_T31 l0 x6_1).f5.f0) == 1)), (by first | rfl | (simp; done) | (simp [*]; done)), H', ⟨by have := HK1.out; have := HJ4.out; first | omega | exact Nat.le_refl _⟩, ⟨by (with_reducible repeat (first | refine blk_drewN ?_ _ | refine blk_drew ?_ | refine blk_alloc ?_ _)); exact BK116.out⟩, ⟨by repeat (first | (with_reducible first | exact HB.out | apply below_alloc | apply pw_below_drewN | apply below_drew1 | refine below_set ?_ GE116.out) | exact HB.out)⟩⟩
         ·rw [if_neg c13] at H
          have c13b0 : ((rd_T31 l0 x6_1).f6.f1) = false := by simpa using c13
          clear c13
          (first | rw [c13b0] | (simp only [i64_w, i32_w]; rw [c13b0]) | skip)
          have H' := Aside0.mk H
          clear H
          have hcz15_0 : wc.cell? ⟨gb116, 0, none⟩ = some (.int .i64 ((rd_T31 l0 x6_1).f0)) := (blk_cell BK116.out 0).trans rfl
          have hcz15_1 : wc.cell? ⟨gb116, 1, none⟩ = some (.int .i64 ((rd_T31 l0 x6_1).f1)) := (blk_cell BK116.out 1).trans rfl
          have hcz15_2 : wc.cell? ⟨gb116, 2, none⟩ = some (.int .i64 ((rd_T31 l0 x6_1).f2)) := (blk_cell BK116.out 2).trans rfl
          have hcz15_3 : wc.cell? ⟨gb116, 3, none⟩ = some (.int .i64 ((rd_T31 l0 x6_1).f3)) := (blk_cell BK116.out 3).trans rfl
          have hcz15_4 : wc.cell? ⟨gb116, 4, none⟩ = some (.int .i64 ((rd_T31 l0 x6_1).f4)) := (blk_cell BK116.out 4).trans rfl
          have hcz15_5 : wc.cell? ⟨gb116, 5, none⟩ = some (.int .i64 ((rd_T31 l0 x6_1).f5.f0)) := (blk_cell BK116.out 5).trans rfl
          have hcz15_6 : wc.cell? ⟨gb116, 6, none⟩ = some (.int .u64 ((rd_T31 l0 x6_1).f5.f1)) := (blk_cell BK116.out 6).trans rfl
          have hcz15_7 : wc.cell? ⟨gb116, 7, none⟩ = some (.int .u64 ((rd_T31 l0 x6_1).f5.f2)) := (blk_cell BK116.out 7).trans rfl
          have hcz15_8 : wc.cell? ⟨gb116, 8, none⟩ = some (.int .i64 ((rd_T31 l0 x6_1).f5.f3)) := (blk_cell BK116.out 8).trans rfl
          have hcz15_9 : wc.cell? ⟨gb116, 9, none⟩ = some (.int .i64 ((rd_T31 l0 x6_1).f6.f0)) := (blk_cell BK116.out 9).trans rfl
          have hcz15_10 : wc.cell? ⟨gb116, 10, none⟩ = some (.bool ((rd_T31 l0 x6_1).f6.f1)) := (blk_cell BK116.out 10).trans rfl
          have hcz15_11 : wc.cell? ⟨gb116, 11, none⟩ = some (.int .u64 ((rd_T31 l0 x6_1).f6.f2)) := (blk_cell BK116.out 11).trans rfl
          have hcz15_12 : wc.cell? ⟨gb116, 12, none⟩ = some (.slice A115_12 ((rd_T31 l0 x6_1).f6.f3).length c115_12) := (blk_cell BK116.out 12).trans rfl
          have hfz15_0 := blk_frozen BK116.out 0
          have hfz15_1 := blk_frozen BK116.out 1
          have hfz15_2 := blk_frozen BK116.out 2
          have hfz15_3 := blk_frozen BK116.out 3
          have hfz15_4 := blk_frozen BK116.out 4
          have hfz15_5 := blk_frozen BK116.out 5
          have hfz15_6 := blk_frozen BK116.out 6
          have hfz15_7 := blk_frozen BK116.out 7
          have hfz15_8 := blk_frozen BK116.out 8
          have hfz15_9 := blk_frozen BK116.out 9
          have hfz15_10 := blk_frozen BK116.out 10
          have hfz15_11 := blk_frozen BK116.out 11
          have hfz15_12 := blk_frozen BK116.out 12
          go_wp2
          go_meet
          case rel => exact ⟨_, (false), (by first | rfl | (simp; done) | (simp [*]; done)), H', ⟨by have := HK1.out; have := HJ4.out; first | omega | exact Nat.le_refl _⟩, ⟨by (with_reducible repeat (first | refine blk_drewN ?_ _ | refine blk_drew ?_ | refine blk_alloc ?_ _)); exact BK116.out⟩, ⟨by repeat (first | (with_reducible first | exact HB.out | apply below_alloc | apply pw_below_drewN | apply below_drew1 | refine below_set ?_ GE116.out) | exact HB.out)⟩⟩
        ·replace c12 := Bool.eq_false_iff.mpr c12
         subst c12
         have H1 : (corrieref19_Size.j2 kj4 l0 a1 x5_1 x6_1 false false ((rd_T31 l0 x6_1).f0) ((rd_T31 l0 x6_1).f1) ((rd_T31 l0 x6_1).f2) ((rd_T31 l0 x6_1).f3) ((rd_T31 l0 x6_1).f4) ((rd_T31 l0 x6_1).f5.f0) ((rd_T31 l0 x6_1).f5.f1) ((rd_T31 l0 x6_1).f5.f2) ((rd_T31 l0 x6_1).f5.f3) ((rd_T31 l0 x6_1).f6.f0) ((rd_T31 l0 x6_1).f6.f1) ((rd_T31 l0 x6_1).f6.f2) ((rd_T31 l0 x6_1).f6.f3)) = some r := by rw [if_neg (show ¬ (false = true) by decide)] at H; exact H
         clear H
         have H := H1
         clear H1
         have H' := Aside0.mk H
         clear H
         go_wp2
         go_meet
         case rel => exact ⟨_, (false), (by first | rfl | (simp; done) | (simp [*]; done)), H', ⟨by have := HK1.out; have := HJ4.out; first | omega | exact Nat.le_refl _⟩, ⟨by (with_reducible repeat (first | refine blk_drewN ?_ _ | refine blk_drew ?_ | refine blk_alloc ?_ _)); exact BK116.out⟩, ⟨by repeat (first | (with_reducible first | exact HB.out | apply below_alloc | apply pw_below_drewN | apply below_drew1 | refine below_set ?_ GE116.out) | exact HB.out)⟩⟩
       case rest =>
        clear HC11
        try clear c1
        try clear p1
        try clear q1
        try clear hx1
        try clear p2
        try clear c3
        try clear c3b0
        try clear c4
        try clear c4b0
        try clear c8
        try clear c8b0
        try clear c11
        try clear p11
        try clear q11
        try clear hx11
        try clear c12
        try clear c13
        try clear c13b0
        try clear hcz10_0
        try clear hcz10_1
        try clear hcz10_10
        try clear hcz10_11
        try clear hcz10_12
        try clear hcz10_2
        try clear hcz10_3
        try clear hcz10_4
        try clear hcz10_5
        try clear hcz10_6
        try clear hcz10_7
        try clear hcz10_8
        try clear hcz10_9
        try clear hcz14_0
        try clear hcz14_1
        try clear hcz14_10
        try clear hcz14_11
        try clear hcz14_12
        try clear hcz14_2
        try clear hcz14_3
        try clear hcz14_4
        try clear hcz14_5
        try clear hcz14_6
        try clear hcz14_7
        try clear hcz14_8
        try clear hcz14_9
        try clear hcz15_0
        try clear hcz15_1
        try clear hcz15_10
        try clear hcz15_11
        try clear hcz15_12
        try clear hcz15_2
        try clear hcz15_3
        try clear hcz15_4
        try clear hcz15_5
        try clear hcz15_6
        try clear hcz15_7
        try clear hcz15_8
        try clear hcz15_9
        try clear hcz7_0
        try clear hcz7_1
        try clear hcz7_10
        try clear hcz7_11
        try clear hcz7_12
        try clear hcz7_2
        try clear hcz7_3
        try clear hcz7_4
        try clear hcz7_5
        try clear hcz7_6
        try clear hcz7_7
        try clear hcz7_8
        try clear hcz7_9
        try clear hcz9_0
        try clear hcz9_1
        try clear hcz9_10
        try clear hcz9_11
        try clear hcz9_12
        try clear hcz9_2
        try clear hcz9_3
        try clear hcz9_4
        try clear hcz9_5
        try clear hcz9_6
        try clear hcz9_7
        try clear hcz9_8
        try clear hcz9_9
        try clear hfz10_0
        try clear hfz10_1
        try clear hfz10_10
        try clear hfz10_11
        try clear hfz10_12
        try clear hfz10_2
        try clear hfz10_3
        try clear hfz10_4
        try clear hfz10_5
        try clear hfz10_6
        try clear hfz10_7
        try clear hfz10_8
        try clear hfz10_9
        try clear hfz14_0
        try clear hfz14_1
        try clear hfz14_10
        try clear hfz14_11
        try clear hfz14_12
        try clear hfz14_2
        try clear hfz14_3
        try clear hfz14_4
        try clear hfz14_5
        try clear hfz14_6
        try clear hfz14_7
        try clear hfz14_8
        try clear hfz14_9
        try clear hfz15_0
        try clear hfz15_1
        try clear hfz15_10
        try clear hfz15_11
        try clear hfz15_12
        try clear hfz15_2
        try clear hfz15_3
        try clear hfz15_4
        try clear hfz15_5
        try clear hfz15_6
        try clear hfz15_7
        try clear hfz15_8
        try clear hfz15_9
        try clear hfz7_0
        try clear hfz7_1
        try clear hfz7_10
        try clear hfz7_11
        try clear hfz7_12
        try clear hfz7_2
        try clear hfz7_3
        try clear hfz7_4
        try clear hfz7_5
        try clear hfz7_6
        try clear hfz7_7
        try clear hfz7_8
        try clear hfz7_9
        try clear hfz9_0
        try clear hfz9_1
        try clear hfz9_10
        try clear hfz9_11
        try clear hfz9_12
        try clear hfz9_2
        try clear hfz9_3
        try clear hfz9_4
        try clear hfz9_5
        try clear hfz9_6
        try clear hfz9_7
        try clear hfz9_8
        try clear hfz9_9
        try clear hx115_0
        try clear hx115_1
        try clear hx115_10
        try clear hx115_11
        try clear hx115_12
        try clear hx115_2
        try clear hx115_3
        try clear hx115_4
        try clear hx115_5
        try clear hx115_6
        try clear hx115_7
        try clear hx115_8
        try clear hx115_9
        try clear p1
        try clear p115
        try clear p2
        try clear q1
        try clear q115
        obtain ⟨kq, x39_10, rfl, HA, HJ10, BK116, HB⟩ := hcut
        cases kq with
        | zero => exact absurd HA.out (by simp [corrieref19_Size.j2])
        | succ kj10 =>
         have H := HA.out
         clear HA
         simp only [corrieref19_Size.j2] at H
         have HC16 := Aside0.mk H
         clear H
         go_upto_if 39 with (fail)
         go_cut [5] (fun v5 wc => ∃ (kq : Nat) (x5_15 : Int), v5 = .int .i64 x5_15 ∧ Aside0 (corrieref19_Size.j3 kq l0 a1 x5_15 x6_1 x8_4 ((rd_T31 l0 x6_1).f0) ((rd_T31 l0 x6_1).f1) ((rd_T31 l0 x6_1).f2) ((rd_T31 l0 x6_1).f3) ((rd_T31 l0 x6_1).f4) ((rd_T31 l0 x6_1).f5.f0) ((rd_T31 l0 x6_1).f5.f1) ((rd_T31 l0 x6_1).f5.f2) ((rd_T31 l0 x6_1).f5.f3) ((rd_T31 l0 x6_1).f6.f0) ((rd_T31 l0 x6_1).f6.f1) ((rd_T31 l0 x6_1).f6.f2) ((rd_T31 l0 x6_1).f6.f3) = some r) ∧ Aside0 (kq ≤ kj10) ∧ Aside0 (wc.heap[gb116]? = some (.cells #[.int .i64 ((rd_T31 l0 x6_1).f0), .int .i64 ((rd_T31 l0 x6_1).f1), .int .i64 ((rd_T31 l0 x6_1).f2), .int .i64 ((rd_T31 l0 x6_1).f3), .int .i64 ((rd_T31 l0 x6_1).f4), .int .i64 ((rd_T31 l0 x6_1).f5.f0), .int .u64 ((rd_T31 l0 x6_1).f5.f1), .int .u64 ((rd_T31 l0 x6_1).f5.f2), .int .i64 ((rd_T31 l0 x6_1).f5.f3), .int .i64 ((rd_T31 l0 x6_1).f6.f0), .bool ((rd_T31 l0 x6_1).f6.f1), .int .u64 ((rd_T31 l0 x6_1).f6.f2), (.slice A115_12 ((rd_T31 l0 x6_1).f6.f3).length c115_12)] 31 (0, 0))) ∧ Aside0 (Below w.heap.size w wc))
         case first =>
          have H := HC16.out
          clear HC16
          by_cases c17 : x39_10 = true
          ·subst c17
           have H1 : (corrieref19_Size.j3 kj10 l0 a1 (wrap64 (x5_1 + 1)) x6_1 x8_4 ((rd_T31 l0 x6_1).f0) ((rd_T31 l0 x6_1).f1) ((rd_T31 l0 x6_1).f2) ((rd_T31 l0 x6_1).f3) ((rd_T31 l0 x6_1).f4) ((rd_T31 l0 x6_1).f5.f0) ((rd_T31 l0 x6_1).f5.f1) ((rd_T31 l0 x6_1).f5.f2) ((rd_T31 l0 x6_1).f5.f3) ((rd_T31 l0 x6_1).f6.f0) ((rd_T31 l0 x6_1).f6.f1) ((rd_T31 l0 x6_1).f6.f2) ((rd_T31 l0 x6_1).f6.f3)) = some r := by rw [if_pos rfl] at H; exact H
           clear H
           have H := H1
           clear H1
           have H' := Aside0.mk H
           clear H
           go_wp2
           go_meet
           case rel => exact ⟨_, (wrap64 (x5_1 + 1)), (by first | rfl | (simp; done) | (simp [*]; done)), H', ⟨by have := HK1.out; have := HJ4.out; have := HJ10.out; first | omega | exact Nat.le_refl _⟩, ⟨by (with_reducible repeat (first | refine blk_drewN ?_ _ | refine blk_drew ?_ | refine blk_alloc ?_ _)); exact BK116.out⟩, ⟨by repeat (first | (with_reducible first | exact HB.out | apply below_alloc | apply pw_below_drewN | apply below_drew1 | refine below_set ?_ GE116.out) | exact HB.out)⟩⟩
          ·replace c17 := Bool.eq_false_iff.mpr c17
           subst c17
           have H1 : (corrieref19_Size.j3 kj10 l0 a1 x5_1 x6_1 x8_4 ((rd_T31 l0 x6_1).f0) ((rd_T31 l0 x6_1).f1) ((rd_T31 l0 x6_1).f2) ((rd_T31 l0 x6_1).f3) ((rd_T31 l0 x6_1).f4) ((rd_T31 l0 x6_1).f5.f0) ((rd_T31 l0 x6_1).f5.f1) ((rd_T31 l0 x6_1).f5.f2) ((rd_T31 l0 x6_1).f5.f3) ((rd_T31 l0 x6_1).f6.f0) ((rd_T31 l0 x6_1).f6.f1) ((rd_T31 l0 x6_1).f6.f2) ((rd_T31 l0 x6_1).f6.f3)) = some r := by rw [if_neg (show ¬ (false = true) by decide)] at H; exact H
           clear H
           have H := H1
           clear H1
           have H' := Aside0.mk H
           clear H
           go_wp2
           go_meet
           case rel => exact ⟨_, (x5_1), (by first | rfl | (simp; done) | (simp [*]; done)), H', ⟨by have := HK1.out; have := HJ4.out; have := HJ10.out; first | omega | exact Nat.le_refl _⟩, ⟨by (with_reducible repeat (first | refine blk_drewN ?_ _ | refine blk_drew ?_ | refine blk_alloc ?_ _)); exact BK116.out⟩, ⟨by repeat (first | (with_reducible first | exact HB.out | apply below_alloc | apply pw_below_drewN | apply below_drew1 | refine below_set ?_ GE116.out) | exact HB.out)⟩⟩
         case rest =>
          clear HC16
          try clear c1
          try clear p1
          try clear q1
          try clear hx1
          try clear p2
          try clear c3
          try clear c3b0
          try clear c4
          try clear c4b0
          try clear p6
          try clear c8
          try clear c8b0
          try clear c11
          try clear p11
          try clear q11
          try clear hx11
          try clear c12
          try clear c13
          try clear c13b0
          try clear c16
          try clear c17
          try clear hcz10_0
          try clear hcz10_1
          try clear hcz10_10
          try clear hcz10_11
          try clear hcz10_12
          try clear hcz10_2
          try clear hcz10_3
          try clear hcz10_4
          try clear hcz10_5
          try clear hcz10_6
          try clear hcz10_7
          try clear hcz10_8
          try clear hcz10_9
          try clear hcz14_0
          try clear hcz14_1
          try clear hcz14_10
          try clear hcz14_11
          try clear hcz14_12
          try clear hcz14_2
          try clear hcz14_3
          try clear hcz14_4
          try clear hcz14_5
          try clear hcz14_6
          try clear hcz14_7
          try clear hcz14_8
          try clear hcz14_9
          try clear hcz15_0
          try clear hcz15_1
          try clear hcz15_10
          try clear hcz15_11
          try clear hcz15_12
          try clear hcz15_2
          try clear hcz15_3
          try clear hcz15_4
          try clear hcz15_5
          try clear hcz15_6
          try clear hcz15_7
          try clear hcz15_8
          try clear hcz15_9
          try clear hcz7_0
          try clear hcz7_1
          try clear hcz7_10
          try clear hcz7_11
          try clear hcz7_12
          try clear hcz7_2
          try clear hcz7_3
          try clear hcz7_4
          try clear hcz7_5
          try clear hcz7_6
          try clear hcz7_7
          try clear hcz7_8
          try clear hcz7_9
          try clear hcz9_0
          try clear hcz9_1
          try clear hcz9_10
          try clear hcz9_11
          try clear hcz9_12
          try clear hcz9_2
          try clear hcz9_3
          try clear hcz9_4
          try clear hcz9_5
          try clear hcz9_6
          try clear hcz9_7
          try clear hcz9_8
          try clear hcz9_9
          try clear hfz10_0
          try clear hfz10_1
          try clear hfz10_10
          try clear hfz10_11
          try clear hfz10_12
          try clear hfz10_2
          try clear hfz10_3
          try clear hfz10_4
          try clear hfz10_5
          try clear hfz10_6
          try clear hfz10_7
          try clear hfz10_8
          try clear hfz10_9
          try clear hfz14_0
          try clear hfz14_1
          try clear hfz14_10
          try clear hfz14_11
          try clear hfz14_12
          try clear hfz14_2
          try clear hfz14_3
          try clear hfz14_4
          try clear hfz14_5
          try clear hfz14_6
          try clear hfz14_7
          try clear hfz14_8
          try clear hfz14_9
          try clear hfz15_0
          try clear hfz15_1
          try clear hfz15_10
          try clear hfz15_11
          try clear hfz15_12
          try clear hfz15_2
          try clear hfz15_3
          try clear hfz15_4
          try clear hfz15_5
          try clear hfz15_6
          try clear hfz15_7
          try clear hfz15_8
          try clear hfz15_9
          try clear hfz7_0
          try clear hfz7_1
          try clear hfz7_10
          try clear hfz7_11
          try clear hfz7_12
          try clear hfz7_2
          try clear hfz7_3
          try clear hfz7_4
          try clear hfz7_5
          try clear hfz7_6
          try clear hfz7_7
          try clear hfz7_8
          try clear hfz7_9
          try clear hfz9_0
          try clear hfz9_1
          try clear hfz9_10
          try clear hfz9_11
          try clear hfz9_12
          try clear hfz9_2
          try clear hfz9_3
          try clear hfz9_4
          try clear hfz9_5
          try clear hfz9_6
          try clear hfz9_7
          try clear hfz9_8
          try clear hfz9_9
          try clear hx115_0
          try clear hx115_1
          try clear hx115_10
          try clear hx115_11
          try clear hx115_12
          try clear hx115_2
          try clear hx115_3
          try clear hx115_4
          try clear hx115_5
          try clear hx115_6
          try clear hx115_7
          try clear hx115_8
          try clear hx115_9
          try clear p1
          try clear p11
          try clear p115
          try clear p2
          try clear q1
          try clear q11
          try clear q115
          obtain ⟨kq, x5_15, rfl, HA, HJ15, BK116, HB⟩ := hcut
          cases kq with
          | zero => exact absurd HA.out (by simp [corrieref19_Size.j3])
          | succ kj15 =>
           have H := HA.out
           clear HA
           simp only [corrieref19_Size.j3] at H
           have HC18 := Aside0.mk H
           clear H
           go_upto_region 9 with (fail)
           go_cut [53] (fun v53 wc => ∃ (kq : Nat) (x53_17 : Bool), v53 = .bool x53_17 ∧ Aside0 (corrieref19_Size.j4 kq l0 a1 x5_15 x6_1 x8_4 x53_17 ((rd_T31 l0 x6_1).f0) ((rd_T31 l0 x6_1).f1) ((rd_T31 l0 x6_1).f2) ((rd_T31 l0 x6_1).f3) ((rd_T31 l0 x6_1).f4) ((rd_T31 l0 x6_1).f5.f0) ((rd_T31 l0 x6_1).f5.f1) ((rd_T31 l0 x6_1).f5.f2) ((rd_T31 l0 x6_1).f5.f3) ((rd_T31 l0 x6_1).f6.f0) ((rd_T31 l0 x6_1).f6.f1) ((rd_T31 l0 x6_1).f6.f2) ((rd_T31 l0 x6_1).f6.f3) = some r) ∧ Aside0 (kq ≤ kj15) ∧ Aside0 (wc.heap[gb116]? = some (.cells #[.int .i64 ((rd_T31 l0 x6_1).f0), .int .i64 ((rd_T31 l0 x6_1).f1), .int .i64 ((rd_T31 l0 x6_1).f2), .int .i64 ((rd_T31 l0 x6_1).f3), .int .i64 ((rd_T31 l0 x6_1).f4), .int .i64 ((rd_T31 l0 x6_1).f5.f0), .int .u64 ((rd_T31 l0 x6_1).f5.f1), .int .u64 ((rd_T31 l0 x6_1).f5.f2), .int .i64 ((rd_T31 l0 x6_1).f5.f3), .int .i64 ((rd_T31 l0 x6_1).f6.f0), .bool ((rd_T31 l0 x6_1).f6.f1), .int .u64 ((rd_T31 l0 x6_1).f6.f2), (.slice A115_12 ((rd_T31 l0 x6_1).f6.f3).length c115_12)] 31 (0, 0))) ∧ Aside0 (Below w.heap.size w wc))
           case first =>
            have H := HC18.out
            clear HC18
            by_cases c19 : x8_4 = true
            ·subst c19
             have H1 : (if ((rd_T31 l0 x6_1).f6.f1) = true then (corrieref19_Size.j4 kj15 l0 a1 x5_15 x6_1 true (((rd_T31 l0 x6_1).f5.f0) == 2) ((rd_T31 l0 x6_1).f0) ((rd_T31 l0 x6_1).f1) ((rd_T31 l0 x6_1).f2) ((rd_T31 l0 x6_1).f3) ((rd_T31 l0 x6_1).f4) ((rd_T31 l0 x6_1).f5.f0) ((rd_T31 l0 x6_1).f5.f1) ((rd_T31 l0 x6_1).f5.f2) ((rd_T31 l0 x6_1).f5.f3) ((rd_T31 l0 x6_1).f6.f0) ((rd_T31 l0 x6_1).f6.f1) ((rd_T31 l0 x6_1).f6.f2) ((rd_T31 l0 x6_1).f6.f3)) else (corrieref19_Size.j4 kj15 l0 a1 x5_15 x6_1 true false ((rd_T31 l0 x6_1).f0) ((rd_T31 l0 x6_1).f1) ((rd_T31 l0 x6_1).f2) ((rd_T31 l0 x6_1).f3) ((rd_T31 l0 x6_1).f4) ((rd_T31 l0 x6_1).f5.f0) ((rd_T31 l0 x6_1).f5.f1) ((rd_T31 l0 x6_1).f5.f2) ((rd_T31 l0 x6_1).f5.f3) ((rd_T31 l0 x6_1).f6.f0) ((rd_T31 l0 x6_1).f6.f1) ((rd_T31 l0 x6_1).f6.f2) ((rd_T31 l0 x6_1).f6.f3))) = some r := by rw [if_pos rfl] at H; exact H
             clear H
             have H := H1
             clear H1
             by_cases c20 : ((rd_T31 l0 x6_1).f6.f1) = true
             ·rw [if_pos c20] at H
              have c20b0 : ((rd_T31 l0 x6_1).f6.f1) = true := c20
              clear c20
              (first | rw [c20b0] | (simp only [i64_w, i32_w]; rw [c20b0]) | skip)
              have H' := Aside0.mk H
              clear H
              have hcz21_0 : wc.cell? ⟨gb116, 0, none⟩ = some (.int .i64 ((rd_T31 l0 x6_1).f0)) := (blk_cell BK116.out 0).trans rfl
              have hcz21_1 : wc.cell? ⟨gb116, 1, none⟩ = some (.int .i64 ((rd_T31 l0 x6_1).f1)) := (blk_cell BK116.out 1).trans rfl
              have hcz21_2 : wc.cell? ⟨gb116, 2, none⟩ = some (.int .i64 ((rd_T31 l0 x6_1).f2)) := (blk_cell BK116.out 2).trans rfl
              have hcz21_3 : wc.cell? ⟨gb116, 3, none⟩ = some (.int .i64 ((rd_T31 l0 x6_1).f3)) := (blk_cell BK116.out 3).trans rfl
              have hcz21_4 : wc.cell? ⟨gb116, 4, none⟩ = some (.int .i64 ((rd_T31 l0 x6_1).f4)) := (blk_cell BK116.out 4).trans rfl
              have hcz21_5 : wc.cell? ⟨gb116, 5, none⟩ = some (.int .i64 ((rd_T31 l0 x6_1).f5.f0)) := (blk_cell BK116.out 5).trans rfl
              have hcz21_6 : wc.cell? ⟨gb116, 6, none⟩ = some (.int .u64 ((rd_T31 l0 x6_1).f5.f1)) := (blk_cell BK116.out 6).trans rfl
              have hcz21_7 : wc.cell? ⟨gb116, 7, none⟩ = some (.int .u64 ((rd_T31 l0 x6_1).f5.f2)) := (blk_cell BK116.out 7).trans rfl
              have hcz21_8 : wc.cell? ⟨gb116, 8, none⟩ = some (.int .i64 ((rd_T31 l0 x6_1).f5.f3)) := (blk_cell BK116.out 8).trans rfl
              have hcz21_9 : wc.cell? ⟨gb116, 9, none⟩ = some (.int .i64 ((rd_T31 l0 x6_1).f6.f0)) := (blk_cell BK116.out 9).trans rfl
              have hcz21_10 : wc.cell? ⟨gb116, 10, none⟩ = some (.bool ((rd_T31 l0 x6_1).f6.f1)) := (blk_cell BK116.out 10).trans rfl
              have hcz21_11 : wc.cell? ⟨gb116, 11, none⟩ = some (.int .u64 ((rd_T31 l0 x6_1).f6.f2)) := (blk_cell BK116.out 11).trans rfl
              have hcz21_12 : wc.cell? ⟨gb116, 12, none⟩ = some (.slice A115_12 ((rd_T31 l0 x6_1).f6.f3).length c115_12) := (blk_cell BK116.out 12).trans rfl
              have hfz21_0 := blk_frozen BK116.out 0
              have hfz21_1 := blk_frozen BK116.out 1
              have hfz21_2 := blk_frozen BK116.out 2
              have hfz21_3 := blk_frozen BK116.out 3
              have hfz21_4 := blk_frozen BK116.out 4
              have hfz21_5 := blk_frozen BK116.out 5
              have hfz21_6 := blk_frozen BK116.out 6
              have hfz21_7 := blk_frozen BK116.out 7
              have hfz21_8 := blk_frozen BK116.out 8
              have hfz21_9 := blk_frozen BK116.out 9
              have hfz21_10 := blk_frozen BK116.out 10
              have hfz21_11 := blk_frozen BK116.out 11
              have hfz21_12 := blk_frozen BK116.out 12
              go_wp2
              go_meet
              case rel => exact ⟨_, ((((rd_T31 l0 x6_1).f5.f0) == 2)), (by first | rfl | (simp; done) | (simp [*]; done)), H', ⟨by have := HK1.out; have := HJ4.out; have := HJ10.out; have := HJ15.out; first | omega | exact Nat.le_refl _⟩, ⟨by (with_reducible repeat (first | refine blk_drewN ?_ _ | refine blk_drew ?_ | refine blk_alloc ?_ _)); exact BK116.out⟩, ⟨by repeat (first | (with_reducible first | exact HB.out | apply below_alloc | apply pw_below_drewN | apply below_drew1 | refine below_set ?_ GE116.out) | exact HB.out)⟩⟩
             ·rw [if_neg c20] at H
              have c20b0 : ((rd_T31 l0 x6_1).f6.f1) = false := by simpa using c20
              clear c20
              (first | rw [c20b0] | (simp only [i64_w, i32_w]; rw [c20b0]) | skip)
              have H' := Aside0.mk H
              clear H
              have hcz22_0 : wc.cell? ⟨gb116, 0, none⟩ = some (.int .i64 ((rd_T31 l0 x6_1).f0)) := (blk_cell BK116.out 0).trans rfl
              have hcz22_1 : wc.cell? ⟨gb116, 1, none⟩ = some (.int .i64 ((rd_T31 l0 x6_1).f1)) := (blk_cell BK116.out 1).trans rfl
              have hcz22_2 : wc.cell? ⟨gb116, 2, none⟩ = some (.int .i64 ((rd_T31 l0 x6_1).f2)) := (blk_cell BK116.out 2).trans rfl
              have hcz22_3 : wc.cell? ⟨gb116, 3, none⟩ = some (.int .i64 ((rd_T31 l0 x6_1).f3)) := (blk_cell BK116.out 3).trans rfl
              have hcz22_4 : wc.cell? ⟨gb116, 4, none⟩ = some (.int .i64 ((rd_T31 l0 x6_1).f4)) := (blk_cell BK116.out 4).trans rfl
              have hcz22_5 : wc.cell? ⟨gb116, 5, none⟩ = some (.int .i64 ((rd_T31 l0 x6_1).f5.f0)) := (blk_cell BK116.out 5).trans rfl
              have hcz22_6 : wc.cell? ⟨gb116, 6, none⟩ = some (.int .u64 ((rd_T31 l0 x6_1).f5.f1)) := (blk_cell BK116.out 6).trans rfl
              have hcz22_7 : wc.cell? ⟨gb116, 7, none⟩ = some (.int .u64 ((rd_T31 l0 x6_1).f5.f2)) := (blk_cell BK116.out 7).trans rfl
              have hcz22_8 : wc.cell? ⟨gb116, 8, none⟩ = some (.int .i64 ((rd_T31 l0 x6_1).f5.f3)) := (blk_cell BK116.out 8).trans rfl
              have hcz22_9 : wc.cell? ⟨gb116, 9, none⟩ = some (.int .i64 ((rd_T31 l0 x6_1).f6.f0)) := (blk_cell BK116.out 9).trans rfl
              have hcz22_10 : wc.cell? ⟨gb116, 10, none⟩ = some (.bool ((rd_T31 l0 x6_1).f6.f1)) := (blk_cell BK116.out 10).trans rfl
              have hcz22_11 : wc.cell? ⟨gb116, 11, none⟩ = some (.int .u64 ((rd_T31 l0 x6_1).f6.f2)) := (blk_cell BK116.out 11).trans rfl
              have hcz22_12 : wc.cell? ⟨gb116, 12, none⟩ = some (.slice A115_12 ((rd_T31 l0 x6_1).f6.f3).length c115_12) := (blk_cell BK116.out 12).trans rfl
              have hfz22_0 := blk_frozen BK116.out 0
              have hfz22_1 := blk_frozen BK116.out 1
              have hfz22_2 := blk_frozen BK116.out 2
              have hfz22_3 := blk_frozen BK116.out 3
              have hfz22_4 := blk_frozen BK116.out 4
              have hfz22_5 := blk_frozen BK116.out 5
              have hfz22_6 := blk_frozen BK116.out 6
              have hfz22_7 := blk_frozen BK116.out 7
              have hfz22_8 := blk_frozen BK116.out 8
              have hfz22_9 := blk_frozen BK116.out 9
              have hfz22_10 := blk_frozen BK116.out 10
              have hfz22_11 := blk_frozen BK116.out 11
              have hfz22_12 := blk_frozen BK116.out 12
              go_wp2
              go_meet
              case rel => exact ⟨_, (false), (by first | rfl | (simp; done) | (simp [*]; done)), H', ⟨by have := HK1.out; have := HJ4.out; have := HJ10.out; have := HJ15.out; first | omega | exact Nat.le_refl _⟩, ⟨by (with_reducible repeat (first | refine blk_drewN ?_ _ | refine blk_drew ?_ | refine blk_alloc ?_ _)); exact BK116.out⟩, ⟨by repeat (first | (with_reducible first | exact HB.out | apply below_alloc | apply pw_below_drewN | apply below_drew1 | refine below_set ?_ GE116.out) | exact HB.out)⟩⟩
            ·replace c19 := Bool.eq_false_iff.mpr c19
             subst c19
             have H1 : (corrieref19_Size.j4 kj15 l0 a1 x5_15 x6_1 false false ((rd_T31 l0 x6_1).f0) ((rd_T31 l0 x6_1).f1) ((rd_T31 l0 x6_1).f2) ((rd_T31 l0 x6_1).f3) ((rd_T31 l0 x6_1).f4) ((rd_T31 l0 x6_1).f5.f0) ((rd_T31 l0 x6_1).f5.f1) ((rd_T31 l0 x6_1).f5.f2) ((rd_T31 l0 x6_1).f5.f3) ((rd_T31 l0 x6_1).f6.f0) ((rd_T31 l0 x6_1).f6.f1) ((rd_T31 l0 x6_1).f6.f2) ((rd_T31 l0 x6_1).f6.f3)) = some r := by rw [if_neg (show ¬ (false = true) by decide)] at H; exact H
             clear H
             have H := H1
             clear H1
             have H' := Aside0.mk H
             clear H
             go_wp2
             go_meet
             case rel => exact ⟨_, (false), (by first | rfl | (simp; done) | (simp [*]; done)), H', ⟨by have := HK1.out; have := HJ4.out; have := HJ10.out; have := HJ15.out; first | omega | exact Nat.le_refl _⟩, ⟨by (with_reducible repeat (first | refine blk_drewN ?_ _ | refine blk_drew ?_ | refine blk_alloc ?_ _)); exact BK116.out⟩, ⟨by repeat (first | (with_reducible first | exact HB.out | apply below_alloc | apply pw_below_drewN | apply below_drew1 | refine below_set ?_ GE116.out) | exact HB.out)⟩⟩
           case rest =>
            clear HC18
            try clear c1
            try clear p1
            try clear q1
            try clear hx1
            try clear c2
            try clear p2
            try clear c3
            try clear c3b0
            try clear c4
            try clear c4b0
            try clear p6
            try clear c8
            try clear c8b0
            try clear c11
            try clear p11
            try clear q11
            try clear hx11
            try clear c12
            try clear c13
            try clear c13b0
            try clear c16
            try clear c17
            try clear c19
            try clear c20
            try clear c20b0
            try clear hcz10_0
            try clear hcz10_1
            try clear hcz10_10
            try clear hcz10_11
            try clear hcz10_12
            try clear hcz10_2
            try clear hcz10_3
            try clear hcz10_4
            try clear hcz10_5
            try clear hcz10_6
            try clear hcz10_7
            try clear hcz10_8
            try clear hcz10_9
            try clear hcz14_0
            try clear hcz14_1
            try clear hcz14_10
            try clear hcz14_11
            try clear hcz14_12
            try clear hcz14_2
            try clear hcz14_3
            try clear hcz14_4
            try clear hcz14_5
            try clear hcz14_6
            try clear hcz14_7
            try clear hcz14_8
            try clear hcz14_9
            try clear hcz15_0
            try clear hcz15_1
            try clear hcz15_10
            try clear hcz15_11
            try clear hcz15_12
            try clear hcz15_2
            try clear hcz15_3
            try clear hcz15_4
            try clear hcz15_5
            try clear hcz15_6
            try clear hcz15_7
            try clear hcz15_8
            try clear hcz15_9
            try clear hcz21_0
            try clear hcz21_1
            try clear hcz21_10
            try clear hcz21_11
            try clear hcz21_12
            try clear hcz21_2
            try clear hcz21_3
            try clear hcz21_4
            try clear hcz21_5
            try clear hcz21_6
            try clear hcz21_7
            try clear hcz21_8
            try clear hcz21_9
            try clear hcz22_0
            try clear hcz22_1
            try clear hcz22_10
            try clear hcz22_11
            try clear hcz22_12
            try clear hcz22_2
            try clear hcz22_3
            try clear hcz22_4
            try clear hcz22_5
            try clear hcz22_6
            try clear hcz22_7
            try clear hcz22_8
            try clear hcz22_9
            try clear hcz7_0
            try clear hcz7_1
            try clear hcz7_10
            try clear hcz7_11
            try clear hcz7_12
            try clear hcz7_2
            try clear hcz7_3
            try clear hcz7_4
            try clear hcz7_5
            try clear hcz7_6
            try clear hcz7_7
            try clear hcz7_8
            try clear hcz7_9
            try clear hcz9_0
            try clear hcz9_1
            try clear hcz9_10
            try clear hcz9_11
            try clear hcz9_12
            try clear hcz9_2
            try clear hcz9_3
            try clear hcz9_4
            try clear hcz9_5
            try clear hcz9_6
            try clear hcz9_7
            try clear hcz9_8
            try clear hcz9_9
            try clear hfz10_0
            try clear hfz10_1
            try clear hfz10_10
            try clear hfz10_11
            try clear hfz10_12
            try clear hfz10_2
            try clear hfz10_3
            try clear hfz10_4
            try clear hfz10_5
            try clear hfz10_6
            try clear hfz10_7
            try clear hfz10_8
            try clear hfz10_9
            try clear hfz14_0
            try clear hfz14_1
            try clear hfz14_10
            try clear hfz14_11
            try clear hfz14_12
            try clear hfz14_2
            try clear hfz14_3
            try clear hfz14_4
            try clear hfz14_5
            try clear hfz14_6
            try clear hfz14_7
            try clear hfz14_8
            try clear hfz14_9
            try clear hfz15_0
            try clear hfz15_1
            try clear hfz15_10
            try clear hfz15_11
            try clear hfz15_12
            try clear hfz15_2
            try clear hfz15_3
            try clear hfz15_4
            try clear hfz15_5
            try clear hfz15_6
            try clear hfz15_7
            try clear hfz15_8
            try clear hfz15_9
            try clear hfz21_0
            try clear hfz21_1
            try clear hfz21_10
            try clear hfz21_11
            try clear hfz21_12
            try clear hfz21_2
            try clear hfz21_3
            try clear hfz21_4
            try clear hfz21_5
            try clear hfz21_6
            try clear hfz21_7
            try clear hfz21_8
            try clear hfz21_9
            try clear hfz22_0
            try clear hfz22_1
            try clear hfz22_10
            try clear hfz22_11
            try clear hfz22_12
            try clear hfz22_2
            try clear hfz22_3
            try clear hfz22_4
            try clear hfz22_5
            try clear hfz22_6
            try clear hfz22_7
            try clear hfz22_8
            try clear hfz22_9
            try clear hfz7_0
            try clear hfz7_1
            try clear hfz7_10
            try clear hfz7_11
            try clear hfz7_12
            try clear hfz7_2
            try clear hfz7_3
            try clear hfz7_4
            try clear hfz7_5
            try clear hfz7_6
            try clear hfz7_7
            try clear hfz7_8
            try clear hfz7_9
            try clear hfz9_0
            try clear hfz9_1
            try clear hfz9_10
            try clear hfz9_11
            try clear hfz9_12
            try clear hfz9_2
            try clear hfz9_3
            try clear hfz9_4
            try clear hfz9_5
            try clear hfz9_6
            try clear hfz9_7
            try clear hfz9_8
            try clear hfz9_9
            try clear hx115_0
            try clear hx115_1
            try clear hx115_10
            try clear hx115_11
            try clear hx115_12
            try clear hx115_2
            try clear hx115_3
            try clear hx115_4
            try clear hx115_5
            try clear hx115_6
            try clear hx115_7
            try clear hx115_8
            try clear hx115_9
            try clear p1
            try clear p11
            try clear p115
            try clear p2
            try clear p6
            try clear q1
            try clear q11
            try clear q115
            obtain ⟨kq, x53_17, rfl, HA, HJ17, BK116, HB⟩ := hcut
            cases kq with
            | zero => exact absurd HA.out (by simp [corrieref19_Size.j4])
            | succ kj17 =>
             have H := HA.out
             clear HA
             simp only [corrieref19_Size.j4] at H
             by_cases c23 : x53_17 = true
             ·subst c23
              have H1 : (if x8_4 = true then (corrieref19_Size.l0 kj17 l0 a1 (wrap64 (x5_15 - 1)) (wrap64 (x6_1 + 1))) else (if ((rd_T31 l0 x6_1).f2) ≤ a1 then (corrieref19_Size.l0 kj17 l0 a1 (wrap64 ((wrap64 (x5_15 - 1)) + 1)) (wrap64 (x6_1 + 1))) else (corrieref19_Size.l0 kj17 l0 a1 (wrap64 (x5_15 - 1)) (wrap64 (x6_1 + 1))))) = some r := by rw [if_pos rfl] at H; exact H
              clear H
              have H := H1
              clear H1
              by_cases c24 : x8_4 = true
              ·subst c24
               have H1 : (corrieref19_Size.l0 kj17 l0 a1 (wrap64 (x5_15 - 1)) (wrap64 (x6_1 + 1))) = some r := by rw [if_pos rfl] at H; exact H
               clear H
               have H := H1
               clear H1
               have H' := Aside0.mk H
               clear H
               go_wp2
               go_roundg kj17
               case measure => have := HK1.out; have := HJ4.out; have := HJ10.out; have := HJ15.out; have := HJ17.out; omega
               case rel => exact ⟨(wrap64 (x5_15 - 1)), (wrap64 (x6_1 + 1)), (by first | rfl | (simp; done) | (simp [*]; done)), (by first | rfl | (simp; done) | (simp [*]; done)), H', ⟨by have := HK1.out; have := HJ4.out; have := HJ10.out; have := HJ15.out; have := HJ17.out; omega⟩, ⟨by repeat (first | (with_reducible first | exact HB.out | apply below_alloc | apply pw_below_drewN | apply below_drew1 | refine below_set ?_ GE116.out) | exact HB.out)⟩⟩
              ·replace c24 := Bool.eq_false_iff.mpr c24
               subst c24
               have H1 : (if ((rd_T31 l0 x6_1).f2) ≤ a1 then (corrieref19_Size.l0 kj17 l0 a1 (wrap64 ((wrap64 (x5_15 - 1)) + 1)) (wrap64 (x6_1 + 1))) else (corrieref19_Size.l0 kj17 l0 a1 (wrap64 (x5_15 - 1)) (wrap64 (x6_1 + 1)))) = some r := by rw [if_neg (show ¬ (false = true) by decide)] at H; exact H
               clear H
               have H := H1
               clear H1
               by_cases c25 : ((rd_T31 l0 x6_1).f2) ≤ a1
               ·rw [if_pos c25] at H
                have c25b0 : decide (((rd_T31 l0 x6_1).f2) ≤ a1) = true := decide_eq_true c25
                clear c25
                have H' := Aside0.mk H
                clear H
                have hcz26_0 : wc.cell? ⟨gb116, 0, none⟩ = some (.int .i64 ((rd_T31 l0 x6_1).f0)) := (blk_cell BK116.out 0).trans rfl
                have hcz26_1 : wc.cell? ⟨gb116, 1, none⟩ = some (.int .i64 ((rd_T31 l0 x6_1).f1)) := (blk_cell BK116.out 1).trans rfl
                have hcz26_2 : wc.cell? ⟨gb116, 2, none⟩ = some (.int .i64 ((rd_T31 l0 x6_1).f2)) := (blk_cell BK116.out 2).trans rfl
                have hcz26_3 : wc.cell? ⟨gb116, 3, none⟩ = some (.int .i64 ((rd_T31 l0 x6_1).f3)) := (blk_cell BK116.out 3).trans rfl
                have hcz26_4 : wc.cell? ⟨gb116, 4, none⟩ = some (.int .i64 ((rd_T31 l0 x6_1).f4)) := (blk_cell BK116.out 4).trans rfl
                have hcz26_5 : wc.cell? ⟨gb116, 5, none⟩ = some (.int .i64 ((rd_T31 l0 x6_1).f5.f0)) := (blk_cell BK116.out 5).trans rfl
                have hcz26_6 : wc.cell? ⟨gb116, 6, none⟩ = some (.int .u64 ((rd_T31 l0 x6_1).f5.f1)) := (blk_cell BK116.out 6).trans rfl
                have hcz26_7 : wc.cell? ⟨gb116, 7, none⟩ = some (.int .u64 ((rd_T31 l0 x6_1).f5.f2)) := (blk_cell BK116.out 7).trans rfl
                have hcz26_8 : wc.cell? ⟨gb116, 8, none⟩ = some (.int .i64 ((rd_T31 l0 x6_1).f5.f3)) := (blk_cell BK116.out 8).trans rfl
                have hcz26_9 : wc.cell? ⟨gb116, 9, none⟩ = some (.int .i64 ((rd_T31 l0 x6_1).f6.f0)) := (blk_cell BK116.out 9).trans rfl
                have hcz26_10 : wc.cell? ⟨gb116, 10, none⟩ = some (.bool ((rd_T31 l0 x6_1).f6.f1)) := (blk_cell BK116.out 10).trans rfl
                have hcz26_11 : wc.cell? ⟨gb116, 11, none⟩ = some (.int .u64 ((rd_T31 l0 x6_1).f6.f2)) := (blk_cell BK116.out 11).trans rfl
                have hcz26_12 : wc.cell? ⟨gb116, 12, none⟩ = some (.slice A115_12 ((rd_T31 l0 x6_1).f6.f3).length c115_12) := (blk_cell BK116.out 12).trans rfl
                have hfz26_0 := blk_frozen BK116.out 0
                have hfz26_1 := blk_frozen BK116.out 1
                have hfz26_2 := blk_frozen BK116.out 2
                have hfz26_3 := blk_frozen BK116.out 3
                have hfz26_4 := blk_frozen BK116.out 4
                have hfz26_5 := blk_frozen BK116.out 5
                have hfz26_6 := blk_frozen BK116.out 6
                have hfz26_7 := blk_frozen BK116.out 7
                have hfz26_8 := blk_frozen BK116.out 8
                have hfz26_9 := blk_frozen BK116.out 9
                have hfz26_10 := blk_frozen BK116.out 10
                have hfz26_11 := blk_frozen BK116.out 11
                have hfz26_12 := blk_frozen BK116.out 12
                go_wp2
                go_roundg kj17
                case measure => have := HK1.out; have := HJ4.out; have := HJ10.out; have := HJ15.out; have := HJ17.out; omega
                case rel => exact ⟨(wrap64 ((wrap64 (x5_15 - 1)) + 1)), (wrap64 (x6_1 + 1)), (by first | rfl | (simp; done) | (simp [*]; done)), (by first | rfl | (simp; done) | (simp [*]; done)), H', ⟨by have := HK1.out; have := HJ4.out; have := HJ10.out; have := HJ15.out; have := HJ17.out; omega⟩, ⟨by repeat (first | (with_reducible first | exact HB.out | apply below_alloc | apply pw_below_drewN | apply below_drew1 | refine below_set ?_ GE116.out) | exact HB.out)⟩⟩
               ·rw [if_neg c25] at H
                have c25b0 : decide (((rd_T31 l0 x6_1).f2) ≤ a1) = false := decide_eq_false c25
                clear c25
                have H' := Aside0.mk H
                clear H
                have hcz27_0 : wc.cell? ⟨gb116, 0, none⟩ = some (.int .i64 ((rd_T31 l0 x6_1).f0)) := (blk_cell BK116.out 0).trans rfl
                have hcz27_1 : wc.cell? ⟨gb116, 1, none⟩ = some (.int .i64 ((rd_T31 l0 x6_1).f1)) := (blk_cell BK116.out 1).trans rfl
                have hcz27_2 : wc.cell? ⟨gb116, 2, none⟩ = some (.int .i64 ((rd_T31 l0 x6_1).f2)) := (blk_cell BK116.out 2).trans rfl
                have hcz27_3 : wc.cell? ⟨gb116, 3, none⟩ = some (.int .i64 ((rd_T31 l0 x6_1).f3)) := (blk_cell BK116.out 3).trans rfl
                have hcz27_4 : wc.cell? ⟨gb116, 4, none⟩ = some (.int .i64 ((rd_T31 l0 x6_1).f4)) := (blk_cell BK116.out 4).trans rfl
                have hcz27_5 : wc.cell? ⟨gb116, 5, none⟩ = some (.int .i64 ((rd_T31 l0 x6_1).f5.f0)) := (blk_cell BK116.out 5).trans rfl
                have hcz27_6 : wc.cell? ⟨gb116, 6, none⟩ = some (.int .u64 ((rd_T31 l0 x6_1).f5.f1)) := (blk_cell BK116.out 6).trans rfl
                have hcz27_7 : wc.cell? ⟨gb116, 7, none⟩ = some (.int .u64 ((rd_T31 l0 x6_1).f5.f2)) := (blk_cell BK116.out 7).trans rfl
                have hcz27_8 : wc.cell? ⟨gb116, 8, none⟩ = some (.int .i64 ((rd_T31 l0 x6_1).f5.f3)) := (blk_cell BK116.out 8).trans rfl
                have hcz27_9 : wc.cell? ⟨gb116, 9, none⟩ = some (.int .i64 ((rd_T31 l0 x6_1).f6.f0)) := (blk_cell BK116.out 9).trans rfl
                have hcz27_10 : wc.cell? ⟨gb116, 10, none⟩ = some (.bool ((rd_T31 l0 x6_1).f6.f1)) := (blk_cell BK116.out 10).trans rfl
                have hcz27_11 : wc.cell? ⟨gb116, 11, none⟩ = some (.int .u64 ((rd_T31 l0 x6_1).f6.f2)) := (blk_cell BK116.out 11).trans rfl
                have hcz27_12 : wc.cell? ⟨gb116, 12, none⟩ = some (.slice A115_12 ((rd_T31 l0 x6_1).f6.f3).length c115_12) := (blk_cell BK116.out 12).trans rfl
                have hfz27_0 := blk_frozen BK116.out 0
                have hfz27_1 := blk_frozen BK116.out 1
                have hfz27_2 := blk_frozen BK116.out 2
                have hfz27_3 := blk_frozen BK116.out 3
                have hfz27_4 := blk_frozen BK116.out 4
                have hfz27_5 := blk_frozen BK116.out 5
                have hfz27_6 := blk_frozen BK116.out 6
                have hfz27_7 := blk_frozen BK116.out 7
                have hfz27_8 := blk_frozen BK116.out 8
                have hfz27_9 := blk_frozen BK116.out 9
                have hfz27_10 := blk_frozen BK116.out 10
                have hfz27_11 := blk_frozen BK116.out 11
                have hfz27_12 := blk_frozen BK116.out 12
                go_wp2
                go_roundg kj17
                case measure => have := HK1.out; have := HJ4.out; have := HJ10.out; have := HJ15.out; have := HJ17.out; omega
                case rel => exact ⟨(wrap64 (x5_15 - 1)), (wrap64 (x6_1 + 1)), (by first | rfl | (simp; done) | (simp [*]; done)), (by first | rfl | (simp; done) | (simp [*]; done)), H', ⟨by have := HK1.out; have := HJ4.out; have := HJ10.out; have := HJ15.out; have := HJ17.out; omega⟩, ⟨by repeat (first | (with_reducible first | exact HB.out | apply below_alloc | apply pw_below_drewN | apply below_drew1 | refine below_set ?_ GE116.out) | exact HB.out)⟩⟩
             ·replace c23 := Bool.eq_false_iff.mpr c23
              subst c23
              have H1 : (if x8_4 = true then (corrieref19_Size.l0 kj17 l0 a1 x5_15 (wrap64 (x6_1 + 1))) else (if ((rd_T31 l0 x6_1).f2) ≤ a1 then (corrieref19_Size.l0 kj17 l0 a1 (wrap64 (x5_15 + 1)) (wrap64 (x6_1 + 1))) else (corrieref19_Size.l0 kj17 l0 a1 x5_15 (wrap64 (x6_1 + 1))))) = some r := by rw [if_neg (show ¬ (false = true) by decide)] at H; exact H
              clear H
              have H := H1
              clear H1
              by_cases c28 : x8_4 = true
              ·subst c28
               have H1 : (corrieref19_Size.l0 kj17 l0 a1 x5_15 (wrap64 (x6_1 + 1))) = some r := by rw [if_pos rfl] at H; exact H
               clear H
               have H := H1
               clear H1
               have H' := Aside0.mk H
               clear H
               go_wp2
               go_roundg kj17
               case measure => have := HK1.out; have := HJ4.out; have := HJ10.out; have := HJ15.out; have := HJ17.out; omega
               case rel => exact ⟨(x5_15), (wrap64 (x6_1 + 1)), (by first | rfl | (simp; done) | (simp [*]; done)), (by first | rfl | (simp; done) | (simp [*]; done)), H', ⟨by have := HK1.out; have := HJ4.out; have := HJ10.out; have := HJ15.out; have := HJ17.out; omega⟩, ⟨by repeat (first | (with_reducible first | exact HB.out | apply below_alloc | apply pw_below_drewN | apply below_drew1 | refine below_set ?_ GE116.out) | exact HB.out)⟩⟩
              ·replace c28 := Bool.eq_false_iff.mpr c28
               subst c28
               have H1 : (if ((rd_T31 l0 x6_1).f2) ≤ a1 then (corrieref19_Size.l0 kj17 l0 a1 (wrap64 (x5_15 + 1)) (wrap64 (x6_1 + 1))) else (corrieref19_Size.l0 kj17 l0 a1 x5_15 (wrap64 (x6_1 + 1)))) = some r := by rw [if_neg (show ¬ (false = true) by decide)] at H; exact H
               clear H
               have H := H1
               clear H1
               by_cases c29 : ((rd_T31 l0 x6_1).f2) ≤ a1
               ·rw [if_pos c29] at H
                have c29b0 : decide (((rd_T31 l0 x6_1).f2) ≤ a1) = true := decide_eq_true c29
                clear c29
                have H' := Aside0.mk H
                clear H
                have hcz30_0 : wc.cell? ⟨gb116, 0, none⟩ = some (.int .i64 ((rd_T31 l0 x6_1).f0)) := (blk_cell BK116.out 0).trans rfl
                have hcz30_1 : wc.cell? ⟨gb116, 1, none⟩ = some (.int .i64 ((rd_T31 l0 x6_1).f1)) := (blk_cell BK116.out 1).trans rfl
                have hcz30_2 : wc.cell? ⟨gb116, 2, none⟩ = some (.int .i64 ((rd_T31 l0 x6_1).f2)) := (blk_cell BK116.out 2).trans rfl
                have hcz30_3 : wc.cell? ⟨gb116, 3, none⟩ = some (.int .i64 ((rd_T31 l0 x6_1).f3)) := (blk_cell BK116.out 3).trans rfl
                have hcz30_4 : wc.cell? ⟨gb116, 4, none⟩ = some (.int .i64 ((rd_T31 l0 x6_1).f4)) := (blk_cell BK116.out 4).trans rfl
                have hcz30_5 : wc.cell? ⟨gb116, 5, none⟩ = some (.int .i64 ((rd_T31 l0 x6_1).f5.f0)) := (blk_cell BK116.out 5).trans rfl
                have hcz30_6 : wc.cell? ⟨gb116, 6, none⟩ = some (.int .u64 ((rd_T31 l0 x6_1).f5.f1)) := (blk_cell BK116.out 6).trans rfl
                have hcz30_7 : wc.cell? ⟨gb116, 7, none⟩ = some (.int .u64 ((rd_T31 l0 x6_1).f5.f2)) := (blk_cell BK116.out 7).trans rfl
                have hcz30_8 : wc.cell? ⟨gb116, 8, none⟩ = some (.int .i64 ((rd_T31 l0 x6_1).f5.f3)) := (blk_cell BK116.out 8).trans rfl
                have hcz30_9 : wc.cell? ⟨gb116, 9, none⟩ = some (.int .i64 ((rd_T31 l0 x6_1).f6.f0)) := (blk_cell BK116.out 9).trans rfl
                have hcz30_10 : wc.cell? ⟨gb116, 10, none⟩ = some (.bool ((rd_T31 l0 x6_1).f6.f1)) := (blk_cell BK116.out 10).trans rfl
                have hcz30_11 : wc.cell? ⟨gb116, 11, none⟩ = some (.int .u64 ((rd_T31 l0 x6_1).f6.f2)) := (blk_cell BK116.out 11).trans rfl
                have hcz30_12 : wc.cell? ⟨gb116, 12, none⟩ = some (.slice A115_12 ((rd_T31 l0 x6_1).f6.f3).length c115_12) := (blk_cell BK116.out 12).trans rfl
                have hfz30_0 := blk_frozen BK116.out 0
                have hfz30_1 := blk_frozen BK116.out 1
                have hfz30_2 := blk_frozen BK116.out 2
                have hfz30_3 := blk_frozen BK116.out 3
                have hfz30_4 := blk_frozen BK116.out 4
                have hfz30_5 := blk_frozen BK116.out 5
                have hfz30_6 := blk_frozen BK116.out 6
                have hfz30_7 := blk_frozen BK116.out 7
                have hfz30_8 := blk_frozen BK116.out 8
                have hfz30_9 := blk_frozen BK116.out 9
                have hfz30_10 := blk_frozen BK116.out 10
                have hfz30_11 := blk_frozen BK116.out 11
                have hfz30_12 := blk_frozen BK116.out 12
                go_wp2
                go_roundg kj17
                case measure => have := HK1.out; have := HJ4.out; have := HJ10.out; have := HJ15.out; have := HJ17.out; omega
                case rel => exact ⟨(wrap64 (x5_15 + 1)), (wrap64 (x6_1 + 1)), (by first | rfl | (simp; done) | (simp [*]; done)), (by first | rfl | (simp; done) | (simp [*]; done)), H', ⟨by have := HK1.out; have := HJ4.out; have := HJ10.out; have := HJ15.out; have := HJ17.out; omega⟩, ⟨by repeat (first | (with_reducible first | exact HB.out | apply below_alloc | apply pw_below_drewN | apply below_drew1 | refine below_set ?_ GE116.out) | exact HB.out)⟩⟩
               ·rw [if_neg c29] at H
                have c29b0 : decide (((rd_T31 l0 x6_1).f2) ≤ a1) = false := decide_eq_false c29
                clear c29
                have H' := Aside0.mk H
                clear H
                have hcz31_0 : wc.cell? ⟨gb116, 0, none⟩ = some (.int .i64 ((rd_T31 l0 x6_1).f0)) := (blk_cell BK116.out 0).trans rfl
                have hcz31_1 : wc.cell? ⟨gb116, 1, none⟩ = some (.int .i64 ((rd_T31 l0 x6_1).f1)) := (blk_cell BK116.out 1).trans rfl
                have hcz31_2 : wc.cell? ⟨gb116, 2, none⟩ = some (.int .i64 ((rd_T31 l0 x6_1).f2)) := (blk_cell BK116.out 2).trans rfl
                have hcz31_3 : wc.cell? ⟨gb116, 3, none⟩ = some (.int .i64 ((rd_T31 l0 x6_1).f3)) := (blk_cell BK116.out 3).trans rfl
                have hcz31_4 : wc.cell? ⟨gb116, 4, none⟩ = some (.int .i64 ((rd_T31 l0 x6_1).f4)) := (blk_cell BK116.out 4).trans rfl
                have hcz31_5 : wc.cell? ⟨gb116, 5, none⟩ = some (.int .i64 ((rd_T31 l0 x6_1).f5.f0)) := (blk_cell BK116.out 5).trans rfl
                have hcz31_6 : wc.cell? ⟨gb116, 6, none⟩ = some (.int .u64 ((rd_T31 l0 x6_1).f5.f1)) := (blk_cell BK116.out 6).trans rfl
                have hcz31_7 : wc.cell? ⟨gb116, 7, none⟩ = some (.int .u64 ((rd_T31 l0 x6_1).f5.f2)) := (blk_cell BK116.out 7).trans rfl
                have hcz31_8 : wc.cell? ⟨gb116, 8, none⟩ = some (.int .i64 ((rd_T31 l0 x6_1).f5.f3)) := (blk_cell BK116.out 8).trans rfl
                have hcz31_9 : wc.cell? ⟨gb116, 9, none⟩ = some (.int .i64 ((rd_T31 l0 x6_1).f6.f0)) := (blk_cell BK116.out 9).trans rfl
                have hcz31_10 : wc.cell? ⟨gb116, 10, none⟩ = some (.bool ((rd_T31 l0 x6_1).f6.f1)) := (blk_cell BK116.out 10).trans rfl
                have hcz31_11 : wc.cell? ⟨gb116, 11, none⟩ = some (.int .u64 ((rd_T31 l0 x6_1).f6.f2)) := (blk_cell BK116.out 11).trans rfl
                have hcz31_12 : wc.cell? ⟨gb116, 12, none⟩ = some (.slice A115_12 ((rd_T31 l0 x6_1).f6.f3).length c115_12) := (blk_cell BK116.out 12).trans rfl
                have hfz31_0 := blk_frozen BK116.out 0
                have hfz31_1 := blk_frozen BK116.out 1
                have hfz31_2 := blk_frozen BK116.out 2
                have hfz31_3 := blk_frozen BK116.out 3
                have hfz31_4 := blk_frozen BK116.out 4
                have hfz31_5 := blk_frozen BK116.out 5
                have hfz31_6 := blk_frozen BK116.out 6
                have hfz31_7 := blk_frozen BK116.out 7
                have hfz31_8 := blk_frozen BK116.out 8
                have hfz31_9 := blk_frozen BK116.out 9
                have hfz31_10 := blk_frozen BK116.out 10
                have hfz31_11 := blk_frozen BK116.out 11
                have hfz31_12 := blk_frozen BK116.out 12
                go_wp2
                go_roundg kj17
                case measure => have := HK1.out; have := HJ4.out; have := HJ10.out; have := HJ15.out; have := HJ17.out; omega
                case rel => exact ⟨(x5_15), (wrap64 (x6_1 + 1)), (by first | rfl | (simp; done) | (simp [*]; done)), (by first | rfl | (simp; done) | (simp [*]; done)), H', ⟨by have := HK1.out; have := HJ4.out; have := HJ10.out; have := HJ15.out; have := HJ17.out; omega⟩, ⟨by repeat (first | (with_reducible first | exact HB.out | apply below_alloc | apply pw_below_drewN | apply below_drew1 | refine below_set ?_ GE116.out) | exact HB.out)⟩⟩
    ·rw [if_neg c4] at H
     exact absurd H (by simp)
   ·rw [if_neg c3] at H
    have c3b0 : decide (x6_1 < (l0.length : Int)) = false := decide_eq_false c3
    clear c3
    obtain rfl := Option.some.inj H
    go_wp2
    go_ret
    exact ⟨by first | rfl | (simp [errW_none, errW_some] <;> rfl) | (simp [*, errW_none, errW_some] <;> rfl), by repeat (first | (with_reducible first | exact HB.out | apply below_alloc | apply pw_below_drewN | apply below_drew1) | exact HB.out)⟩

end Go.Proofs.Ytpcmoclohepdiad.PHistoryTells
