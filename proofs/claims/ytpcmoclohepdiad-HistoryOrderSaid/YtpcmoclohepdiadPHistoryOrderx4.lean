-- Written by a program of this session: a variant of the print that takes proofs by hand (wip/tools/mkprint.py)
import Derived.Test.YtpcmoclohepdiadPHistoryOrderx0
import Derived.Test.YtpcmoclohepdiadPHistoryOrderx2
import Derived.Test.YtpcmoclohepdiadPHistoryOrderx3
namespace Go.Proofs.Ytpcmoclohepdiad.PHistoryOrder
open Go.RowKit Go.Proofs.YtpcmoclohepdiadW.PrintWords Go.Proofs.YtpcmoclohepdiadW.PrintLast Go.Proofs.YtpcmoclohepdiadW.PrintMore
attribute [local go_sem] max2_int min2_int max_two min_two max_three min_three max_four min_four   -- for this text's walks alone
set_option linter.unusedVariables false
set_option linter.unusedSimpArgs false

/-! ### corrielaw19_HistoryOrder: function 4 -/
def corrielaw19_HistoryOrder.j0 : Nat → Bool → Bool → Bool → Bool → Int → Int → Int → Int → Int → Int → Int → Int → Int → Int → Bool → Int → List (S49) → Int → Int → Int → Int → Int → Int → Int → Int → Int → Int → Bool → Int → List (S49) → Int → Int → Int → Int → Int → Int → Int → Int → Int → Int → Bool → Int → List (S49) → Option (Bool)
  | 0, _, _, _, _, _, _, _, _, _, _, _, _, _, _, _, _, _, _, _, _, _, _, _, _, _, _, _, _, _, _, _, _, _, _, _, _, _, _, _, _, _, _, _ => none
  | k + 1, x7, x8, x9, x38, x106000, x106001, x106002, x106003, x106004, x106005, x106006, x106007, x106008, x106009, x106010, x106011, x106012, x107000, x107001, x107002, x107003, x107004, x107005, x107006, x107007, x107008, x107009, x107010, x107011, x107012, x108000, x108001, x108002, x108003, x108004, x108005, x108006, x108007, x108008, x108009, x108010, x108011, x108012 => if x38 = true then (if x7 = true then ((corrieref19_Before.f x106000 x106001 x106002 x106003 x106004 x106005 x106006 x106007 x106008 x106009 x106010 x106011 x106012 x107000 x107001 x107002 x107003 x107004 x107005 x107006 x107007 x107008 x107009 x107010 x107011 x107012).bind fun t111 => (some (x8 == t111))) else (some false)) else (if x7 = true then ((corrieref19_Before.f x106000 x106001 x106002 x106003 x106004 x106005 x106006 x106007 x106008 x106009 x106010 x106011 x106012 x107000 x107001 x107002 x107003 x107004 x107005 x107006 x107007 x107008 x107009 x107010 x107011 x107012).bind fun t112 => (if (x8 == t112) = true then (if x8 = true then ((history_Before.f x107000 x107001 x107002 x107003 x107004 x107005 x107006 x107007 x107008 x107009 x107010 x107011 x107012 x106000 x106001 x106002 x106003 x106004 x106005 x106006 x106007 x106008 x106009 x106010 x106011 x106012).bind fun t113 => (if t113 = true then (some false) else ((history_Before.f x106000 x106001 x106002 x106003 x106004 x106005 x106006 x106007 x106008 x106009 x106010 x106011 x106012 x106000 x106001 x106002 x106003 x106004 x106005 x106006 x106007 x106008 x106009 x106010 x106011 x106012).bind fun t114 => (if t114 = true then (some false) else (if x9 = true then ((history_Before.f x106000 x106001 x106002 x106003 x106004 x106005 x106006 x106007 x106008 x106009 x106010 x106011 x106012 x108000 x108001 x108002 x108003 x108004 x108005 x108006 x108007 x108008 x108009 x108010 x108011 x108012).bind fun t115 => (some t115)) else (some true)))))) else ((history_Before.f x106000 x106001 x106002 x106003 x106004 x106005 x106006 x106007 x106008 x106009 x106010 x106011 x106012 x106000 x106001 x106002 x106003 x106004 x106005 x106006 x106007 x106008 x106009 x106010 x106011 x106012).bind fun t116 => (if t116 = true then (some false) else (some true)))) else (some false))) else (some false))
def corrielaw19_HistoryOrder.f (k : Nat) (a0_0 : Int) (a0_1 : Int) (a0_2 : Int) (a0_3 : Int) (a0_4 : Int) (a0_5 : Int) (a0_6 : Int) (a0_7 : Int) (a0_8 : Int) (a0_9 : Int) (a0_10 : Bool) (a0_11 : Int) (l0_12 : List (S49)) (a1_0 : Int) (a1_1 : Int) (a1_2 : Int) (a1_3 : Int) (a1_4 : Int) (a1_5 : Int) (a1_6 : Int) (a1_7 : Int) (a1_8 : Int) (a1_9 : Int) (a1_10 : Bool) (a1_11 : Int) (l1_12 : List (S49)) (a2_0 : Int) (a2_1 : Int) (a2_2 : Int) (a2_3 : Int) (a2_4 : Int) (a2_5 : Int) (a2_6 : Int) (a2_7 : Int) (a2_8 : Int) (a2_9 : Int) (a2_10 : Bool) (a2_11 : Int) (l2_12 : List (S49)) : Option (Bool) := (corrielaw19_awake.f).bind fun t108 => ((history_Before.f a0_0 a0_1 a0_2 a0_3 a0_4 a0_5 a0_6 a0_7 a0_8 a0_9 a0_10 a0_11 l0_12 a1_0 a1_1 a1_2 a1_3 a1_4 a1_5 a1_6 a1_7 a1_8 a1_9 a1_10 a1_11 l1_12).bind fun t109 => ((history_Before.f a1_0 a1_1 a1_2 a1_3 a1_4 a1_5 a1_6 a1_7 a1_8 a1_9 a1_10 a1_11 l1_12 a2_0 a2_1 a2_2 a2_3 a2_4 a2_5 a2_6 a2_7 a2_8 a2_9 a2_10 a2_11 l2_12).bind fun t110 => (if a0_3 ≥ 0 then (if a0_3 < a0_2 then (corrielaw19_HistoryOrder.j0 k t108 t109 t110 true a0_0 a0_1 a0_2 a0_3 a0_4 a0_5 a0_6 a0_7 a0_8 a0_9 a0_10 a0_11 l0_12 a1_0 a1_1 a1_2 a1_3 a1_4 a1_5 a1_6 a1_7 a1_8 a1_9 a1_10 a1_11 l1_12 a2_0 a2_1 a2_2 a2_3 a2_4 a2_5 a2_6 a2_7 a2_8 a2_9 a2_10 a2_11 l2_12) else (if a1_3 ≥ 0 then (corrielaw19_HistoryOrder.j0 k t108 t109 t110 (decide (a1_3 < a1_2)) a0_0 a0_1 a0_2 a0_3 a0_4 a0_5 a0_6 a0_7 a0_8 a0_9 a0_10 a0_11 l0_12 a1_0 a1_1 a1_2 a1_3 a1_4 a1_5 a1_6 a1_7 a1_8 a1_9 a1_10 a1_11 l1_12 a2_0 a2_1 a2_2 a2_3 a2_4 a2_5 a2_6 a2_7 a2_8 a2_9 a2_10 a2_11 l2_12) else (corrielaw19_HistoryOrder.j0 k t108 t109 t110 false a0_0 a0_1 a0_2 a0_3 a0_4 a0_5 a0_6 a0_7 a0_8 a0_9 a0_10 a0_11 l0_12 a1_0 a1_1 a1_2 a1_3 a1_4 a1_5 a1_6 a1_7 a1_8 a1_9 a1_10 a1_11 l1_12 a2_0 a2_1 a2_2 a2_3 a2_4 a2_5 a2_6 a2_7 a2_8 a2_9 a2_10 a2_11 l2_12))) else (if a1_3 ≥ 0 then (corrielaw19_HistoryOrder.j0 k t108 t109 t110 (decide (a1_3 < a1_2)) a0_0 a0_1 a0_2 a0_3 a0_4 a0_5 a0_6 a0_7 a0_8 a0_9 a0_10 a0_11 l0_12 a1_0 a1_1 a1_2 a1_3 a1_4 a1_5 a1_6 a1_7 a1_8 a1_9 a1_10 a1_11 l1_12 a2_0 a2_1 a2_2 a2_3 a2_4 a2_5 a2_6 a2_7 a2_8 a2_9 a2_10 a2_11 l2_12) else (corrielaw19_HistoryOrder.j0 k t108 t109 t110 false a0_0 a0_1 a0_2 a0_3 a0_4 a0_5 a0_6 a0_7 a0_8 a0_9 a0_10 a0_11 l0_12 a1_0 a1_1 a1_2 a1_3 a1_4 a1_5 a1_6 a1_7 a1_8 a1_9 a1_10 a1_11 l1_12 a2_0 a2_1 a2_2 a2_3 a2_4 a2_5 a2_6 a2_7 a2_8 a2_9 a2_10 a2_11 l2_12)))))
theorem corrielaw19_HistoryOrder.mono_l : ∀ k, (∀ y0 y1 y2 y3 y4 y5 y6 y7 y8 y9 y10 y11 y12 y13 y14 y15 y16 y17 y18 y19 y20 y21 y22 y23 y24 y25 y26 y27 y28 y29 y30 y31 y32 y33 y34 y35 y36 y37 y38 y39 y40 y41 y42, LeO (corrielaw19_HistoryOrder.j0 k y0 y1 y2 y3 y4 y5 y6 y7 y8 y9 y10 y11 y12 y13 y14 y15 y16 y17 y18 y19 y20 y21 y22 y23 y24 y25 y26 y27 y28 y29 y30 y31 y32 y33 y34 y35 y36 y37 y38 y39 y40 y41 y42) (corrielaw19_HistoryOrder.j0 (k + 1) y0 y1 y2 y3 y4 y5 y6 y7 y8 y9 y10 y11 y12 y13 y14 y15 y16 y17 y18 y19 y20 y21 y22 y23 y24 y25 y26 y27 y28 y29 y30 y31 y32 y33 y34 y35 y36 y37 y38 y39 y40 y41 y42))
  | 0 => fun _ _ _ _ _ _ _ _ _ _ _ _ _ _ _ _ _ _ _ _ _ _ _ _ _ _ _ _ _ _ _ _ _ _ _ _ _ _ _ _ _ _ _ r h => by simp [corrielaw19_HistoryOrder.j0] at h
  | k + 1 => by
    have ih0 := corrielaw19_HistoryOrder.mono_l k
    · intro y0 y1 y2 y3 y4 y5 y6 y7 y8 y9 y10 y11 y12 y13 y14 y15 y16 y17 y18 y19 y20 y21 y22 y23 y24 y25 y26 y27 y28 y29 y30 y31 y32 y33 y34 y35 y36 y37 y38 y39 y40 y41 y42
      unfold corrielaw19_HistoryOrder.j0
      repeat' first
      | (with_reducible exact ih0 _ _ _ _ _ _ _ _ _ _ _ _ _ _ _ _ _ _ _ _ _ _ _ _ _ _ _ _ _ _ _ _ _ _ _ _ _ _ _ _ _ _ _)
      | (with_reducible exact LeO.refl _)
      | (with_reducible exact LeO.none _)
      | (with_reducible refine LeO.ite ?_ ?_)
      | (with_reducible refine LeO.bind ?_ (fun _ => ?_))
      | exact ih0 _ _ _ _ _ _ _ _ _ _ _ _ _ _ _ _ _ _ _ _ _ _ _ _ _ _ _ _ _ _ _ _ _ _ _ _ _ _ _ _ _ _ _
      | exact LeO.none _
      | refine LeO.ite ?_ ?_
      | refine LeO.bind ?_ (fun _ => ?_)
theorem corrielaw19_HistoryOrder.mono : ∀ a0 a1 a2 a3 a4 a5 a6 a7 a8 a9 a10 a11 a12 a13 a14 a15 a16 a17 a18 a19 a20 a21 a22 a23 a24 a25 a26 a27 a28 a29 a30 a31 a32 a33 a34 a35 a36 a37 a38 k, LeO (corrielaw19_HistoryOrder.f k a0 a1 a2 a3 a4 a5 a6 a7 a8 a9 a10 a11 a12 a13 a14 a15 a16 a17 a18 a19 a20 a21 a22 a23 a24 a25 a26 a27 a28 a29 a30 a31 a32 a33 a34 a35 a36 a37 a38) (corrielaw19_HistoryOrder.f (k + 1) a0 a1 a2 a3 a4 a5 a6 a7 a8 a9 a10 a11 a12 a13 a14 a15 a16 a17 a18 a19 a20 a21 a22 a23 a24 a25 a26 a27 a28 a29 a30 a31 a32 a33 a34 a35 a36 a37 a38) := by
  intro a0 a1 a2 a3 a4 a5 a6 a7 a8 a9 a10 a11 a12 a13 a14 a15 a16 a17 a18 a19 a20 a21 a22 a23 a24 a25 a26 a27 a28 a29 a30 a31 a32 a33 a34 a35 a36 a37 a38 k
  have ih0 := corrielaw19_HistoryOrder.mono_l k
  unfold corrielaw19_HistoryOrder.f
  repeat' first
      | (with_reducible exact ih0 _ _ _ _ _ _ _ _ _ _ _ _ _ _ _ _ _ _ _ _ _ _ _ _ _ _ _ _ _ _ _ _ _ _ _ _ _ _ _ _ _ _ _)
      | (with_reducible exact LeO.refl _)
      | (with_reducible exact LeO.none _)
      | (with_reducible refine LeO.ite ?_ ?_)
      | (with_reducible refine LeO.bind ?_ (fun _ => ?_))
      | exact ih0 _ _ _ _ _ _ _ _ _ _ _ _ _ _ _ _ _ _ _ _ _ _ _ _ _ _ _ _ _ _ _ _ _ _ _ _ _ _ _ _ _ _ _
      | exact LeO.none _
      | refine LeO.ite ?_ ?_
      | refine LeO.bind ?_ (fun _ => ?_)
set_option maxHeartbeats 8000000 in
set_option maxRecDepth 100000 in
theorem corrielaw19_HistoryOrder.calls (k : Nat) (a0_0 : Int) (a0_1 : Int) (a0_2 : Int) (a0_3 : Int) (a0_4 : Int) (a0_5 : Int) (a0_6 : Int) (a0_7 : Int) (a0_8 : Int) (a0_9 : Int) (a0_10 : Bool) (a0_11 : Int) (A0_12 : Option Addr) (c0_12 : Nat) (l0_12 : List (S49)) (a1_0 : Int) (a1_1 : Int) (a1_2 : Int) (a1_3 : Int) (a1_4 : Int) (a1_5 : Int) (a1_6 : Int) (a1_7 : Int) (a1_8 : Int) (a1_9 : Int) (a1_10 : Bool) (a1_11 : Int) (A1_12 : Option Addr) (c1_12 : Nat) (l1_12 : List (S49)) (a2_0 : Int) (a2_1 : Int) (a2_2 : Int) (a2_3 : Int) (a2_4 : Int) (a2_5 : Int) (a2_6 : Int) (a2_7 : Int) (a2_8 : Int) (a2_9 : Int) (a2_10 : Bool) (a2_11 : Int) (A2_12 : Option Addr) (c2_12 : Nat) (l2_12 : List (S49)) (r : Bool) (w : World) (hr0_12 : Kd.C k49 w A0_12 l0_12.length l0_12) (hc0_12 : l0_12.length ≤ c0_12) (hr1_12 : Kd.C k49 w A1_12 l1_12.length l1_12) (hc1_12 : l1_12.length ≤ c1_12) (hr2_12 : Kd.C k49 w A2_12 l2_12.length l2_12) (hc2_12 : l2_12.length ≤ c2_12) (h : corrielaw19_HistoryOrder.f k a0_0 a0_1 a0_2 a0_3 a0_4 a0_5 a0_6 a0_7 a0_8 a0_9 a0_10 a0_11 l0_12 a1_0 a1_1 a1_2 a1_3 a1_4 a1_5 a1_6 a1_7 a1_8 a1_9 a1_10 a1_11 l1_12 a2_0 a2_1 a2_2 a2_3 a2_4 a2_5 a2_6 a2_7 a2_8 a2_9 a2_10 a2_11 l2_12 = some r) :
    Calls Try.prog 4 #[.agg #[.int .i64 a0_0, .int .i64 a0_1, .int .i64 a0_2, .int .i64 a0_3, .int .i64 a0_4, .int .i64 a0_5, .int .u64 a0_6, .int .u64 a0_7, .int .i64 a0_8, .int .i64 a0_9, .bool a0_10, .int .u64 a0_11, .slice A0_12 l0_12.length c0_12], .agg #[.int .i64 a1_0, .int .i64 a1_1, .int .i64 a1_2, .int .i64 a1_3, .int .i64 a1_4, .int .i64 a1_5, .int .u64 a1_6, .int .u64 a1_7, .int .i64 a1_8, .int .i64 a1_9, .bool a1_10, .int .u64 a1_11, .slice A1_12 l1_12.length c1_12], .agg #[.int .i64 a2_0, .int .i64 a2_1, .int .i64 a2_2, .int .i64 a2_3, .int .i64 a2_4, .int .i64 a2_5, .int .u64 a2_6, .int .u64 a2_7, .int .i64 a2_8, .int .i64 a2_9, .bool a2_10, .int .u64 a2_11, .slice A2_12 l2_12.length c2_12]] w fun e w' => e = .returned (.bool r) ∧ Below w.heap.size w w' := by
  have hu31 := Try.underlying31
  have HR0_12 := Aside0.mk hr0_12
  have HC0_12 := Aside0.mk hc0_12
  clear hr0_12 hc0_12
  have HR1_12 := Aside0.mk hr1_12
  have HC1_12 := Aside0.mk hc1_12
  clear hr1_12 hc1_12
  have HR2_12 := Aside0.mk hr2_12
  have HC2_12 := Aside0.mk hc2_12
  clear hr2_12 hc2_12
  have HB := Aside0.mk (Below.refl w.heap.size w)
  have H : ((corrielaw19_awake.f).bind fun t108 => ((history_Before.f a0_0 a0_1 a0_2 a0_3 a0_4 a0_5 a0_6 a0_7 a0_8 a0_9 a0_10 a0_11 l0_12 a1_0 a1_1 a1_2 a1_3 a1_4 a1_5 a1_6 a1_7 a1_8 a1_9 a1_10 a1_11 l1_12).bind fun t109 => ((history_Before.f a1_0 a1_1 a1_2 a1_3 a1_4 a1_5 a1_6 a1_7 a1_8 a1_9 a1_10 a1_11 l1_12 a2_0 a2_1 a2_2 a2_3 a2_4 a2_5 a2_6 a2_7 a2_8 a2_9 a2_10 a2_11 l2_12).bind fun t110 => (if a0_3 ≥ 0 then (if a0_3 < a0_2 then (corrielaw19_HistoryOrder.j0 k t108 t109 t110 true a0_0 a0_1 a0_2 a0_3 a0_4 a0_5 a0_6 a0_7 a0_8 a0_9 a0_10 a0_11 l0_12 a1_0 a1_1 a1_2 a1_3 a1_4 a1_5 a1_6 a1_7 a1_8 a1_9 a1_10 a1_11 l1_12 a2_0 a2_1 a2_2 a2_3 a2_4 a2_5 a2_6 a2_7 a2_8 a2_9 a2_10 a2_11 l2_12) else (if a1_3 ≥ 0 then (corrielaw19_HistoryOrder.j0 k t108 t109 t110 (decide (a1_3 < a1_2)) a0_0 a0_1 a0_2 a0_3 a0_4 a0_5 a0_6 a0_7 a0_8 a0_9 a0_10 a0_11 l0_12 a1_0 a1_1 a1_2 a1_3 a1_4 a1_5 a1_6 a1_7 a1_8 a1_9 a1_10 a1_11 l1_12 a2_0 a2_1 a2_2 a2_3 a2_4 a2_5 a2_6 a2_7 a2_8 a2_9 a2_10 a2_11 l2_12) else (corrielaw19_HistoryOrder.j0 k t108 t109 t110 false a0_0 a0_1 a0_2 a0_3 a0_4 a0_5 a0_6 a0_7 a0_8 a0_9 a0_10 a0_11 l0_12 a1_0 a1_1 a1_2 a1_3 a1_4 a1_5 a1_6 a1_7 a1_8 a1_9 a1_10 a1_11 l1_12 a2_0 a2_1 a2_2 a2_3 a2_4 a2_5 a2_6 a2_7 a2_8 a2_9 a2_10 a2_11 l2_12))) else (if a1_3 ≥ 0 then (corrielaw19_HistoryOrder.j0 k t108 t109 t110 (decide (a1_3 < a1_2)) a0_0 a0_1 a0_2 a0_3 a0_4 a0_5 a0_6 a0_7 a0_8 a0_9 a0_10 a0_11 l0_12 a1_0 a1_1 a1_2 a1_3 a1_4 a1_5 a1_6 a1_7 a1_8 a1_9 a1_10 a1_11 l1_12 a2_0 a2_1 a2_2 a2_3 a2_4 a2_5 a2_6 a2_7 a2_8 a2_9 a2_10 a2_11 l2_12) else (corrielaw19_HistoryOrder.j0 k t108 t109 t110 false a0_0 a0_1 a0_2 a0_3 a0_4 a0_5 a0_6 a0_7 a0_8 a0_9 a0_10 a0_11 l0_12 a1_0 a1_1 a1_2 a1_3 a1_4 a1_5 a1_6 a1_7 a1_8 a1_9 a1_10 a1_11 l1_12 a2_0 a2_1 a2_2 a2_3 a2_4 a2_5 a2_6 a2_7 a2_8 a2_9 a2_10 a2_11 l2_12)))))) = some r := h
  clear h
  replace H := Option.bind_eq_some_iff.mp H
  obtain ⟨t108, A40, H⟩ := H
  replace H : ((history_Before.f a0_0 a0_1 a0_2 a0_3 a0_4 a0_5 a0_6 a0_7 a0_8 a0_9 a0_10 a0_11 l0_12 a1_0 a1_1 a1_2 a1_3 a1_4 a1_5 a1_6 a1_7 a1_8 a1_9 a1_10 a1_11 l1_12).bind fun t109 => ((history_Before.f a1_0 a1_1 a1_2 a1_3 a1_4 a1_5 a1_6 a1_7 a1_8 a1_9 a1_10 a1_11 l1_12 a2_0 a2_1 a2_2 a2_3 a2_4 a2_5 a2_6 a2_7 a2_8 a2_9 a2_10 a2_11 l2_12).bind fun t110 => (if a0_3 ≥ 0 then (if a0_3 < a0_2 then (corrielaw19_HistoryOrder.j0 k t108 t109 t110 true a0_0 a0_1 a0_2 a0_3 a0_4 a0_5 a0_6 a0_7 a0_8 a0_9 a0_10 a0_11 l0_12 a1_0 a1_1 a1_2 a1_3 a1_4 a1_5 a1_6 a1_7 a1_8 a1_9 a1_10 a1_11 l1_12 a2_0 a2_1 a2_2 a2_3 a2_4 a2_5 a2_6 a2_7 a2_8 a2_9 a2_10 a2_11 l2_12) else (if a1_3 ≥ 0 then (corrielaw19_HistoryOrder.j0 k t108 t109 t110 (decide (a1_3 < a1_2)) a0_0 a0_1 a0_2 a0_3 a0_4 a0_5 a0_6 a0_7 a0_8 a0_9 a0_10 a0_11 l0_12 a1_0 a1_1 a1_2 a1_3 a1_4 a1_5 a1_6 a1_7 a1_8 a1_9 a1_10 a1_11 l1_12 a2_0 a2_1 a2_2 a2_3 a2_4 a2_5 a2_6 a2_7 a2_8 a2_9 a2_10 a2_11 l2_12) else (corrielaw19_HistoryOrder.j0 k t108 t109 t110 false a0_0 a0_1 a0_2 a0_3 a0_4 a0_5 a0_6 a0_7 a0_8 a0_9 a0_10 a0_11 l0_12 a1_0 a1_1 a1_2 a1_3 a1_4 a1_5 a1_6 a1_7 a1_8 a1_9 a1_10 a1_11 l1_12 a2_0 a2_1 a2_2 a2_3 a2_4 a2_5 a2_6 a2_7 a2_8 a2_9 a2_10 a2_11 l2_12))) else (if a1_3 ≥ 0 then (corrielaw19_HistoryOrder.j0 k t108 t109 t110 (decide (a1_3 < a1_2)) a0_0 a0_1 a0_2 a0_3 a0_4 a0_5 a0_6 a0_7 a0_8 a0_9 a0_10 a0_11 l0_12 a1_0 a1_1 a1_2 a1_3 a1_4 a1_5 a1_6 a1_7 a1_8 a1_9 a1_10 a1_11 l1_12 a2_0 a2_1 a2_2 a2_3 a2_4 a2_5 a2_6 a2_7 a2_8 a2_9 a2_10 a2_11 l2_12) else (corrielaw19_HistoryOrder.j0 k t108 t109 t110 false a0_0 a0_1 a0_2 a0_3 a0_4 a0_5 a0_6 a0_7 a0_8 a0_9 a0_10 a0_11 l0_12 a1_0 a1_1 a1_2 a1_3 a1_4 a1_5 a1_6 a1_7 a1_8 a1_9 a1_10 a1_11 l1_12 a2_0 a2_1 a2_2 a2_3 a2_4 a2_5 a2_6 a2_7 a2_8 a2_9 a2_10 a2_11 l2_12))))) = some r := H
  have A4 := Aside0.mk A40
  clear A40
  replace H := Option.bind_eq_some_iff.mp H
  obtain ⟨t109, A50, H⟩ := H
  replace H : ((history_Before.f a1_0 a1_1 a1_2 a1_3 a1_4 a1_5 a1_6 a1_7 a1_8 a1_9 a1_10 a1_11 l1_12 a2_0 a2_1 a2_2 a2_3 a2_4 a2_5 a2_6 a2_7 a2_8 a2_9 a2_10 a2_11 l2_12).bind fun t110 => (if a0_3 ≥ 0 then (if a0_3 < a0_2 then (corrielaw19_HistoryOrder.j0 k t108 t109 t110 true a0_0 a0_1 a0_2 a0_3 a0_4 a0_5 a0_6 a0_7 a0_8 a0_9 a0_10 a0_11 l0_12 a1_0 a1_1 a1_2 a1_3 a1_4 a1_5 a1_6 a1_7 a1_8 a1_9 a1_10 a1_11 l1_12 a2_0 a2_1 a2_2 a2_3 a2_4 a2_5 a2_6 a2_7 a2_8 a2_9 a2_10 a2_11 l2_12) else (if a1_3 ≥ 0 then (corrielaw19_HistoryOrder.j0 k t108 t109 t110 (decide (a1_3 < a1_2)) a0_0 a0_1 a0_2 a0_3 a0_4 a0_5 a0_6 a0_7 a0_8 a0_9 a0_10 a0_11 l0_12 a1_0 a1_1 a1_2 a1_3 a1_4 a1_5 a1_6 a1_7 a1_8 a1_9 a1_10 a1_11 l1_12 a2_0 a2_1 a2_2 a2_3 a2_4 a2_5 a2_6 a2_7 a2_8 a2_9 a2_10 a2_11 l2_12) else (corrielaw19_HistoryOrder.j0 k t108 t109 t110 false a0_0 a0_1 a0_2 a0_3 a0_4 a0_5 a0_6 a0_7 a0_8 a0_9 a0_10 a0_11 l0_12 a1_0 a1_1 a1_2 a1_3 a1_4 a1_5 a1_6 a1_7 a1_8 a1_9 a1_10 a1_11 l1_12 a2_0 a2_1 a2_2 a2_3 a2_4 a2_5 a2_6 a2_7 a2_8 a2_9 a2_10 a2_11 l2_12))) else (if a1_3 ≥ 0 then (corrielaw19_HistoryOrder.j0 k t108 t109 t110 (decide (a1_3 < a1_2)) a0_0 a0_1 a0_2 a0_3 a0_4 a0_5 a0_6 a0_7 a0_8 a0_9 a0_10 a0_11 l0_12 a1_0 a1_1 a1_2 a1_3 a1_4 a1_5 a1_6 a1_7 a1_8 a1_9 a1_10 a1_11 l1_12 a2_0 a2_1 a2_2 a2_3 a2_4 a2_5 a2_6 a2_7 a2_8 a2_9 a2_10 a2_11 l2_12) else (corrielaw19_HistoryOrder.j0 k t108 t109 t110 false a0_0 a0_1 a0_2 a0_3 a0_4 a0_5 a0_6 a0_7 a0_8 a0_9 a0_10 a0_11 l0_12 a1_0 a1_1 a1_2 a1_3 a1_4 a1_5 a1_6 a1_7 a1_8 a1_9 a1_10 a1_11 l1_12 a2_0 a2_1 a2_2 a2_3 a2_4 a2_5 a2_6 a2_7 a2_8 a2_9 a2_10 a2_11 l2_12)))) = some r := H
  have A5 := Aside0.mk A50
  clear A50
  replace H := Option.bind_eq_some_iff.mp H
  obtain ⟨t110, A60, H⟩ := H
  replace H : (if a0_3 ≥ 0 then (if a0_3 < a0_2 then (corrielaw19_HistoryOrder.j0 k t108 t109 t110 true a0_0 a0_1 a0_2 a0_3 a0_4 a0_5 a0_6 a0_7 a0_8 a0_9 a0_10 a0_11 l0_12 a1_0 a1_1 a1_2 a1_3 a1_4 a1_5 a1_6 a1_7 a1_8 a1_9 a1_10 a1_11 l1_12 a2_0 a2_1 a2_2 a2_3 a2_4 a2_5 a2_6 a2_7 a2_8 a2_9 a2_10 a2_11 l2_12) else (if a1_3 ≥ 0 then (corrielaw19_HistoryOrder.j0 k t108 t109 t110 (decide (a1_3 < a1_2)) a0_0 a0_1 a0_2 a0_3 a0_4 a0_5 a0_6 a0_7 a0_8 a0_9 a0_10 a0_11 l0_12 a1_0 a1_1 a1_2 a1_3 a1_4 a1_5 a1_6 a1_7 a1_8 a1_9 a1_10 a1_11 l1_12 a2_0 a2_1 a2_2 a2_3 a2_4 a2_5 a2_6 a2_7 a2_8 a2_9 a2_10 a2_11 l2_12) else (corrielaw19_HistoryOrder.j0 k t108 t109 t110 false a0_0 a0_1 a0_2 a0_3 a0_4 a0_5 a0_6 a0_7 a0_8 a0_9 a0_10 a0_11 l0_12 a1_0 a1_1 a1_2 a1_3 a1_4 a1_5 a1_6 a1_7 a1_8 a1_9 a1_10 a1_11 l1_12 a2_0 a2_1 a2_2 a2_3 a2_4 a2_5 a2_6 a2_7 a2_8 a2_9 a2_10 a2_11 l2_12))) else (if a1_3 ≥ 0 then (corrielaw19_HistoryOrder.j0 k t108 t109 t110 (decide (a1_3 < a1_2)) a0_0 a0_1 a0_2 a0_3 a0_4 a0_5 a0_6 a0_7 a0_8 a0_9 a0_10 a0_11 l0_12 a1_0 a1_1 a1_2 a1_3 a1_4 a1_5 a1_6 a1_7 a1_8 a1_9 a1_10 a1_11 l1_12 a2_0 a2_1 a2_2 a2_3 a2_4 a2_5 a2_6 a2_7 a2_8 a2_9 a2_10 a2_11 l2_12) else (corrielaw19_HistoryOrder.j0 k t108 t109 t110 false a0_0 a0_1 a0_2 a0_3 a0_4 a0_5 a0_6 a0_7 a0_8 a0_9 a0_10 a0_11 l0_12 a1_0 a1_1 a1_2 a1_3 a1_4 a1_5 a1_6 a1_7 a1_8 a1_9 a1_10 a1_11 l1_12 a2_0 a2_1 a2_2 a2_3 a2_4 a2_5 a2_6 a2_7 a2_8 a2_9 a2_10 a2_11 l2_12))) = some r := H
  have A6 := Aside0.mk A60
  clear A60
  have HC7 := Aside0.mk H
  clear H
  go_enter Try.func4, Try.ntmps4
  go_upto_region 4 with (first | ((with_reducible refine gate_dst (N := 3) rfl ?_); refine box_event ?hg (N := 3) ?hd (cs := #[.int .i64 a0_0, .int .i64 a0_1, .int .i64 a0_2, .int .i64 a0_3, .int .i64 a0_4, .int .i64 a0_5, .int .u64 a0_6, .int .u64 a0_7, .int .i64 a0_8, .int .i64 a0_9, .bool a0_10, .int .u64 a0_11, .slice A0_12 l0_12.length c0_12]) (t := 31) ?hr ?_; (case hd => rfl); (case hg => rfl); (case hr => first | (go_simp; done) | (go_simp; rfl)); intro gb105 hg w8 hbox hb; have n0_ := Aside0.mk (below_step (by repeat (first | (with_reducible first | exact HB.out | apply below_alloc | apply pw_below_drewN | apply below_drew1) | exact HB.out)) hb); have n1_ := Aside0.mk (hbox); have n2_ := Aside0.mk ((by rw [hg]; exact (below_size (by repeat (first | (with_reducible first | exact HB.out | apply below_alloc | apply pw_below_drewN | apply below_drew1) | exact HB.out))) : w.heap.size ≤ gb105)); have n3_ := Aside0.mk ((by rw [hg]; exact (below_size (by repeat (first | (with_reducible first | exact HB.out | apply below_alloc | apply pw_below_drewN | apply below_drew1) | exact HB.out))) : w.heap.size ≤ gb105)); clear HB; have HB := n0_; have BK105 := n1_; have GW105 := n2_; have GE105 := n3_; clear n0_ n1_ n2_ n3_; clear hb hbox hg) | ((with_reducible refine gate_dst (N := 4) rfl ?_); refine box_event ?hg (N := 4) ?hd (cs := #[.int .i64 a1_0, .int .i64 a1_1, .int .i64 a1_2, .int .i64 a1_3, .int .i64 a1_4, .int .i64 a1_5, .int .u64 a1_6, .int .u64 a1_7, .int .i64 a1_8, .int .i64 a1_9, .bool a1_10, .int .u64 a1_11, .slice A1_12 l1_12.length c1_12]) (t := 31) ?hr ?_; (case hd => rfl); (case hg => rfl); (case hr => first | (go_simp; done) | (go_simp; rfl)); intro gb106 hg w9 hbox hb; have n0_ := Aside0.mk (blk_below (g := gb105) (o := .cells #[.int .i64 a0_0, .int .i64 a0_1, .int .i64 a0_2, .int .i64 a0_3, .int .i64 a0_4, .int .i64 a0_5, .int .u64 a0_6, .int .u64 a0_7, .int .i64 a0_8, .int .i64 a0_9, .bool a0_10, .int .u64 a0_11, .slice A0_12 l0_12.length c0_12] 31 (0, 0)) (by (with_reducible repeat (first | refine blk_drewN ?_ _ | refine blk_drew ?_ | refine blk_alloc ?_ _)); exact BK105.out) hb); have n1_ := Aside0.mk (below_step (by repeat (first | (with_reducible first | exact HB.out | apply below_alloc | apply pw_below_drewN | apply below_drew1 | refine below_set ?_ GE105.out) | exact HB.out)) hb); have n2_ := Aside0.mk (hbox); have n3_ := Aside0.mk ((by rw [hg]; exact (below_size (by repeat (first | (with_reducible first | exact HB.out | apply below_alloc | apply pw_below_drewN | apply below_drew1 | refine below_set ?_ GE105.out) | exact HB.out))) : w.heap.size ≤ gb106)); have n4_ := Aside0.mk ((by rw [hg]; exact (below_size (by repeat (first | (with_reducible first | exact HB.out | apply below_alloc | apply pw_below_drewN | apply below_drew1 | refine below_set ?_ GE105.out) | exact HB.out))) : w.heap.size ≤ gb106)); have n5_ := Aside0.mk ((by rw [hg]; exact Nat.ne_of_lt (blk_lt (g := gb105) (o := .cells #[.int .i64 a0_0, .int .i64 a0_1, .int .i64 a0_2, .int .i64 a0_3, .int .i64 a0_4, .int .i64 a0_5, .int .u64 a0_6, .int .u64 a0_7, .int .i64 a0_8, .int .i64 a0_9, .bool a0_10, .int .u64 a0_11, .slice A0_12 l0_12.length c0_12] 31 (0, 0)) (by (with_reducible repeat (first | refine blk_drewN ?_ _ | refine blk_drew ?_ | refine blk_alloc ?_ _)); exact BK105.out)) : gb105 ≠ gb106)); have n6_ := Aside0.mk ((by rw [hg]; exact Nat.ne_of_gt (blk_lt (g := gb105) (o := .cells #[.int .i64 a0_0, .int .i64 a0_1, .int .i64 a0_2, .int .i64 a0_3, .int .i64 a0_4, .int .i64 a0_5, .int .u64 a0_6, .int .u64 a0_7, .int .i64 a0_8, .int .i64 a0_9, .bool a0_10, .int .u64 a0_11, .slice A0_12 l0_12.length c0_12] 31 (0, 0)) (by (with_reducible repeat (first | refine blk_drewN ?_ _ | refine blk_drew ?_ | refine blk_alloc ?_ _)); exact BK105.out)) : gb106 ≠ gb105)); clear BK105; clear HB; have BK105 := n0_; have HB := n1_; have BK106 := n2_; have GW106 := n3_; have GE106 := n4_; have NB105_106 := n5_; have NB106_105 := n6_; clear n0_ n1_ n2_ n3_ n4_ n5_ n6_; clear hb hbox hg) | ((with_reducible refine gate_dst (N := 5) rfl ?_); refine box_event ?hg (N := 5) ?hd (cs := #[.int .i64 a2_0, .int .i64 a2_1, .int .i64 a2_2, .int .i64 a2_3, .int .i64 a2_4, .int .i64 a2_5, .int .u64 a2_6, .int .u64 a2_7, .int .i64 a2_8, .int .i64 a2_9, .bool a2_10, .int .u64 a2_11, .slice A2_12 l2_12.length c2_12]) (t := 31) ?hr ?_; (case hd => rfl); (case hg => rfl); (case hr => first | (go_simp; done) | (go_simp; rfl)); intro gb107 hg w10 hbox hb; have n0_ := Aside0.mk (blk_below (g := gb105) (o := .cells #[.int .i64 a0_0, .int .i64 a0_1, .int .i64 a0_2, .int .i64 a0_3, .int .i64 a0_4, .int .i64 a0_5, .int .u64 a0_6, .int .u64 a0_7, .int .i64 a0_8, .int .i64 a0_9, .bool a0_10, .int .u64 a0_11, .slice A0_12 l0_12.length c0_12] 31 (0, 0)) (by (with_reducible repeat (first | refine blk_drewN ?_ _ | refine blk_drew ?_ | refine blk_alloc ?_ _)); exact BK105.out) hb); have n1_ := Aside0.mk (blk_below (g := gb106) (o := .cells #[.int .i64 a1_0, .int .i64 a1_1, .int .i64 a1_2, .int .i64 a1_3, .int .i64 a1_4, .int .i64 a1_5, .int .u64 a1_6, .int .u64 a1_7, .int .i64 a1_8, .int .i64 a1_9, .bool a1_10, .int .u64 a1_11, .slice A1_12 l1_12.length c1_12] 31 (0, 0)) (by (with_reducible repeat (first | refine blk_drewN ?_ _ | refine blk_drew ?_ | refine blk_alloc ?_ _)); exact BK106.out) hb); have n2_ := Aside0.mk (below_step (by repeat (first | (with_reducible first | exact HB.out | apply below_alloc | apply pw_below_drewN | apply below_drew1 | refine below_set ?_ GE105.out | refine below_set ?_ GE106.out) | exact HB.out)) hb); have n3_ := Aside0.mk (hbox); have n4_ := Aside0.mk ((by rw [hg]; exact (below_size (by repeat (first | (with_reducible first | exact HB.out | apply below_alloc | apply pw_below_drewN | apply below_drew1 | refine below_set ?_ GE105.out | refine below_set ?_ GE106.out) | exact HB.out))) : w.heap.size ≤ gb107)); have n5_ := Aside0.mk ((by rw [hg]; exact (below_size (by repeat (first | (with_reducible first | exact HB.out | apply below_alloc | apply pw_below_drewN | apply below_drew1 | refine below_set ?_ GE105.out | refine below_set ?_ GE106.out) | exact HB.out))) : w.heap.size ≤ gb107)); have n6_ := Aside0.mk ((by rw [hg]; exact Nat.ne_of_lt (blk_lt (g := gb105) (o := .cells #[.int .i64 a0_0, .int .i64 a0_1, .int .i64 a0_2, .int .i64 a0_3, .int .i64 a0_4, .int .i64 a0_5, .int .u64 a0_6, .int .u64 a0_7, .int .i64 a0_8, .int .i64 a0_9, .bool a0_10, .int .u64 a0_11, .slice A0_12 l0_12.length c0_12] 31 (0, 0)) (by (with_reducible repeat (first | refine blk_drewN ?_ _ | refine blk_drew ?_ | refine blk_alloc ?_ _)); exact BK105.out)) : gb105 ≠ gb107)); have n7_ := Aside0.mk ((by rw [hg]; exact Nat.ne_of_gt (blk_lt (g := gb105) (o := .cells #[.int .i64 a0_0, .int .i64 a0_1, .int .i64 a0_2, .int .i64 a0_3, .int .i64 a0_4, .int .i64 a0_5, .int .u64 a0_6, .int .u64 a0_7, .int .i64 a0_8, .int .i64 a0_9, .bool a0_10, .int .u64 a0_11, .slice A0_12 l0_12.length c0_12] 31 (0, 0)) (by (with_reducible repeat (first | refine blk_drewN ?_ _ | refine blk_drew ?_ | refine blk_alloc ?_ _)); exact BK105.out)) : gb107 ≠ gb105)); have n8_ := Aside0.mk ((by rw [hg]; exact Nat.ne_of_lt (blk_lt (g := gb106) (o := .cells #[.int .i64 a1_0, .int .i64 a1_1, .int .i64 a1_2, .int .i64 a1_3, .int .i64 a1_4, .int .i64 a1_5, .int .u64 a1_6, .int .u64 a1_7, .int .i64 a1_8, .int .i64 a1_9, .bool a1_10, .int .u64 a1_11, .slice A1_12 l1_12.length c1_12] 31 (0, 0)) (by (with_reducible repeat (first | refine blk_drewN ?_ _ | refine blk_drew ?_ | refine blk_alloc ?_ _)); exact BK106.out)) : gb106 ≠ gb107)); have n9_ := Aside0.mk ((by rw [hg]; exact Nat.ne_of_gt (blk_lt (g := gb106) (o := .cells #[.int .i64 a1_0, .int .i64 a1_1, .int .i64 a1_2, .int .i64 a1_3, .int .i64 a1_4, .int .i64 a1_5, .int .u64 a1_6, .int .u64 a1_7, .int .i64 a1_8, .int .i64 a1_9, .bool a1_10, .int .u64 a1_11, .slice A1_12 l1_12.length c1_12] 31 (0, 0)) (by (with_reducible repeat (first | refine blk_drewN ?_ _ | refine blk_drew ?_ | refine blk_alloc ?_ _)); exact BK106.out)) : gb107 ≠ gb106)); clear BK105; clear BK106; clear HB; have BK105 := n0_; have BK106 := n1_; have HB := n2_; have BK107 := n3_; have GW107 := n4_; have GE107 := n5_; have NB105_107 := n6_; have NB107_105 := n7_; have NB106_107 := n8_; have NB107_106 := n9_; clear n0_ n1_ n2_ n3_ n4_ n5_ n6_ n7_ n8_ n9_; clear hb hbox hg) | ((with_reducible refine gate_callee (f := 8) rfl ?_); refine goesL_ (some 10) rfl rfl Try.func8 (by kernel_rfl) rfl #[] rfl (by (try simp only [List.map_toArray, List.map_cons, List.map_nil]); first | done | rfl | (simp only [List.length_drop, List.length_take]; rfl)) ?_; (with_reducible refine (corrielaw19_awake.calls  t108 _ A4.out).mono ?_); rintro e w11 ⟨rfl, hb⟩; refine ⟨_, rfl, ?_⟩; have n0_ := Aside0.mk (blk_below (g := gb105) (o := .cells #[.int .i64 a0_0, .int .i64 a0_1, .int .i64 a0_2, .int .i64 a0_3, .int .i64 a0_4, .int .i64 a0_5, .int .u64 a0_6, .int .u64 a0_7, .int .i64 a0_8, .int .i64 a0_9, .bool a0_10, .int .u64 a0_11, .slice A0_12 l0_12.length c0_12] 31 (0, 0)) (by (with_reducible repeat (first | refine blk_drewN ?_ _ | refine blk_drew ?_ | refine blk_alloc ?_ _)); exact BK105.out) hb); have n1_ := Aside0.mk (blk_below (g := gb106) (o := .cells #[.int .i64 a1_0, .int .i64 a1_1, .int .i64 a1_2, .int .i64 a1_3, .int .i64 a1_4, .int .i64 a1_5, .int .u64 a1_6, .int .u64 a1_7, .int .i64 a1_8, .int .i64 a1_9, .bool a1_10, .int .u64 a1_11, .slice A1_12 l1_12.length c1_12] 31 (0, 0)) (by (with_reducible repeat (first | refine blk_drewN ?_ _ | refine blk_drew ?_ | refine blk_alloc ?_ _)); exact BK106.out) hb); have n2_ := Aside0.mk (blk_below (g := gb107) (o := .cells #[.int .i64 a2_0, .int .i64 a2_1, .int .i64 a2_2, .int .i64 a2_3, .int .i64 a2_4, .int .i64 a2_5, .int .u64 a2_6, .int .u64 a2_7, .int .i64 a2_8, .int .i64 a2_9, .bool a2_10, .int .u64 a2_11, .slice A2_12 l2_12.length c2_12] 31 (0, 0)) (by (with_reducible repeat (first | refine blk_drewN ?_ _ | refine blk_drew ?_ | refine blk_alloc ?_ _)); exact BK107.out) hb); have n3_ := Aside0.mk (below_step (by repeat (first | (with_reducible first | exact HB.out | apply below_alloc | apply pw_below_drewN | apply below_drew1 | refine below_set ?_ GE105.out | refine below_set ?_ GE106.out | refine below_set ?_ GE107.out) | exact HB.out)) hb); clear BK105; clear BK106; clear BK107; clear HB; have BK105 := n0_; have BK106 := n1_; have BK107 := n2_; have HB := n3_; clear n0_ n1_ n2_ n3_; (try clear hb); (try clear hb2); (try clear hk); (try clear hi); have hnb12 := NB105_106.out; have hnc12 := NB106_105.out; have hnb13 := NB105_107.out; have hnc13 := NB107_105.out; have hcz14_0 : w11.cell? ⟨gb105, 0, none⟩ = some (.int .i64 a0_0) := (blk_cell BK105.out 0).trans rfl; have hcz14_1 : w11.cell? ⟨gb105, 1, none⟩ = some (.int .i64 a0_1) := (blk_cell BK105.out 1).trans rfl; have hcz14_2 : w11.cell? ⟨gb105, 2, none⟩ = some (.int .i64 a0_2) := (blk_cell BK105.out 2).trans rfl; have hcz14_3 : w11.cell? ⟨gb105, 3, none⟩ = some (.int .i64 a0_3) := (blk_cell BK105.out 3).trans rfl; have hcz14_4 : w11.cell? ⟨gb105, 4, none⟩ = some (.int .i64 a0_4) := (blk_cell BK105.out 4).trans rfl; have hcz14_5 : w11.cell? ⟨gb105, 5, none⟩ = some (.int .i64 a0_5) := (blk_cell BK105.out 5).trans rfl; have hcz14_6 : w11.cell? ⟨gb105, 6, none⟩ = some (.int .u64 a0_6) := (blk_cell BK105.out 6).trans rfl; have hcz14_7 : w11.cell? ⟨gb105, 7, none⟩ = some (.int .u64 a0_7) := (blk_cell BK105.out 7).trans rfl; have hcz14_8 : w11.cell? ⟨gb105, 8, none⟩ = some (.int .i64 a0_8) := (blk_cell BK105.out 8).trans rfl; have hcz14_9 : w11.cell? ⟨gb105, 9, none⟩ = some (.int .i64 a0_9) := (blk_cell BK105.out 9).trans rfl; have hcz14_10 : w11.cell? ⟨gb105, 10, none⟩ = some (.bool a0_10) := (blk_cell BK105.out 10).trans rfl; have hcz14_11 : w11.cell? ⟨gb105, 11, none⟩ = some (.int .u64 a0_11) := (blk_cell BK105.out 11).trans rfl; have hcz14_12 : w11.cell? ⟨gb105, 12, none⟩ = some (.slice A0_12 l0_12.length c0_12) := (blk_cell BK105.out 12).trans rfl; have hfz14_0 := blk_frozen BK105.out 0; have hfz14_1 := blk_frozen BK105.out 1; have hfz14_2 := blk_frozen BK105.out 2; have hfz14_3 := blk_frozen BK105.out 3; have hfz14_4 := blk_frozen BK105.out 4; have hfz14_5 := blk_frozen BK105.out 5; have hfz14_6 := blk_frozen BK105.out 6; have hfz14_7 := blk_frozen BK105.out 7; have hfz14_8 := blk_frozen BK105.out 8; have hfz14_9 := blk_frozen BK105.out 9; have hfz14_10 := blk_frozen BK105.out 10; have hfz14_11 := blk_frozen BK105.out 11; have hfz14_12 := blk_frozen BK105.out 12; have hnb15 := NB106_107.out; have hnc15 := NB107_106.out; have hcz16_0 : w11.cell? ⟨gb106, 0, none⟩ = some (.int .i64 a1_0) := (blk_cell BK106.out 0).trans rfl; have hcz16_1 : w11.cell? ⟨gb106, 1, none⟩ = some (.int .i64 a1_1) := (blk_cell BK106.out 1).trans rfl; have hcz16_2 : w11.cell? ⟨gb106, 2, none⟩ = some (.int .i64 a1_2) := (blk_cell BK106.out 2).trans rfl; have hcz16_3 : w11.cell? ⟨gb106, 3, none⟩ = some (.int .i64 a1_3) := (blk_cell BK106.out 3).trans rfl; have hcz16_4 : w11.cell? ⟨gb106, 4, none⟩ = some (.int .i64 a1_4) := (blk_cell BK106.out 4).trans rfl; have hcz16_5 : w11.cell? ⟨gb106, 5, none⟩ = some (.int .i64 a1_5) := (blk_cell BK106.out 5).trans rfl; have hcz16_6 : w11.cell? ⟨gb106, 6, none⟩ = some (.int .u64 a1_6) := (blk_cell BK106.out 6).trans rfl; have hcz16_7 : w11.cell? ⟨gb106, 7, none⟩ = some (.int .u64 a1_7) := (blk_cell BK106.out 7).trans rfl; have hcz16_8 : w11.cell? ⟨gb106, 8, none⟩ = some (.int .i64 a1_8) := (blk_cell BK106.out 8).trans rfl; have hcz16_9 : w11.cell? ⟨gb106, 9, none⟩ = some (.int .i64 a1_9) := (blk_cell BK106.out 9).trans rfl; have hcz16_10 : w11.cell? ⟨gb106, 10, none⟩ = some (.bool a1_10) := (blk_cell BK106.out 10).trans rfl; have hcz16_11 : w11.cell? ⟨gb106, 11, none⟩ = some (.int .u64 a1_11) := (blk_cell BK106.out 11).trans rfl; have hcz16_12 : w11.cell? ⟨gb106, 12, none⟩ = some (.slice A1_12 l1_12.length c1_12) := (blk_cell BK106.out 12).trans rfl; have hfz16_0 := blk_frozen BK106.out 0; have hfz16_1 := blk_frozen BK106.out 1; have hfz16_2 := blk_frozen BK106.out 2; have hfz16_3 := blk_frozen BK106.out 3; have hfz16_4 := blk_frozen BK106.out 4; have hfz16_5 := blk_frozen BK106.out 5; have hfz16_6 := blk_frozen BK106.out 6; have hfz16_7 := blk_frozen BK106.out 7; have hfz16_8 := blk_frozen BK106.out 8; have hfz16_9 := blk_frozen BK106.out 9; have hfz16_10 := blk_frozen BK106.out 10; have hfz16_11 := blk_frozen BK106.out 11; have hfz16_12 := blk_frozen BK106.out 12) | ((with_reducible refine gate_callee (f := 19) rfl ?_); refine goesL_ (some 13) rfl rfl Try.func19 (by kernel_rfl) rfl #[.agg #[.int .i64 a0_0, .int .i64 a0_1, .int .i64 a0_2, .int .i64 a0_3, .int .i64 a0_4, .int .i64 a0_5, .int .u64 a0_6, .int .u64 a0_7, .int .i64 a0_8, .int .i64 a0_9, .bool a0_10, .int .u64 a0_11, .slice A0_12 l0_12.length c0_12], .agg #[.int .i64 a1_0, .int .i64 a1_1, .int .i64 a1_2, .int .i64 a1_3, .int .i64 a1_4, .int .i64 a1_5, .int .u64 a1_6, .int .u64 a1_7, .int .i64 a1_8, .int .i64 a1_9, .bool a1_10, .int .u64 a1_11, .slice A1_12 l1_12.length c1_12]] rfl (by (try simp only [List.map_toArray, List.map_cons, List.map_nil]); first | done | rfl | (simp only [List.length_drop, List.length_take]; rfl)) ?_; (with_reducible refine (history_Before.calls a0_0 a0_1 a0_2 a0_3 a0_4 a0_5 a0_6 a0_7 a0_8 a0_9 a0_10 a0_11 _ _ l0_12 a1_0 a1_1 a1_2 a1_3 a1_4 a1_5 a1_6 a1_7 a1_8 a1_9 a1_10 a1_11 _ _ l1_12 t109 _ ?side1 ?side2 ?side3 ?side4 A5.out).mono ?_); (case side1 => repeat (first | exact (Kd.C_below HR0_12.out HB.out) | (with_reducible refine Kd.C_alloc ?_ _) | (with_reducible refine Kd.C_drewN ?_ _) | (with_reducible refine Kd.C_drew ?_))); (case side2 => exact HC0_12.out); (case side3 => repeat (first | exact (Kd.C_below HR1_12.out HB.out) | (with_reducible refine Kd.C_alloc ?_ _) | (with_reducible refine Kd.C_drewN ?_ _) | (with_reducible refine Kd.C_drew ?_))); (case side4 => exact HC1_12.out); rintro e w17 ⟨rfl, hb⟩; refine ⟨_, rfl, ?_⟩; have n0_ := Aside0.mk (blk_below (g := gb105) (o := .cells #[.int .i64 a0_0, .int .i64 a0_1, .int .i64 a0_2, .int .i64 a0_3, .int .i64 a0_4, .int .i64 a0_5, .int .u64 a0_6, .int .u64 a0_7, .int .i64 a0_8, .int .i64 a0_9, .bool a0_10, .int .u64 a0_11, .slice A0_12 l0_12.length c0_12] 31 (0, 0)) (by (with_reducible repeat (first | refine blk_drewN ?_ _ | refine blk_drew ?_ | refine blk_alloc ?_ _)); exact BK105.out) hb); have n1_ := Aside0.mk (blk_below (g := gb106) (o := .cells #[.int .i64 a1_0, .int .i64 a1_1, .int .i64 a1_2, .int .i64 a1_3, .int .i64 a1_4, .int .i64 a1_5, .int .u64 a1_6, .int .u64 a1_7, .int .i64 a1_8, .int .i64 a1_9, .bool a1_10, .int .u64 a1_11, .slice A1_12 l1_12.length c1_12] 31 (0, 0)) (by (with_reducible repeat (first | refine blk_drewN ?_ _ | refine blk_drew ?_ | refine blk_alloc ?_ _)); exact BK106.out) hb); have n2_ := Aside0.mk (blk_below (g := gb107) (o := .cells #[.int .i64 a2_0, .int .i64 a2_1, .int .i64 a2_2, .int .i64 a2_3, .int .i64 a2_4, .int .i64 a2_5, .int .u64 a2_6, .int .u64 a2_7, .int .i64 a2_8, .int .i64 a2_9, .bool a2_10, .int .u64 a2_11, .slice A2_12 l2_12.length c2_12] 31 (0, 0)) (by (with_reducible repeat (first | refine blk_drewN ?_ _ | refine blk_drew ?_ | refine blk_alloc ?_ _)); exact BK107.out) hb); have n3_ := Aside0.mk (below_step (by repeat (first | (with_reducible first | exact HB.out | apply below_alloc | apply pw_below_drewN | apply below_drew1 | refine below_set ?_ GE105.out | refine below_set ?_ GE106.out | refine below_set ?_ GE107.out) | exact HB.out)) hb); clear BK105; clear BK106; clear BK107; clear HB; have BK105 := n0_; have BK106 := n1_; have BK107 := n2_; have HB := n3_; clear n0_ n1_ n2_ n3_; (try clear hb); (try clear hb2); (try clear hk); (try clear hi); have hcz18_0 : w17.cell? ⟨gb106, 0, none⟩ = some (.int .i64 a1_0) := (blk_cell BK106.out 0).trans rfl; have hcz18_1 : w17.cell? ⟨gb106, 1, none⟩ = some (.int .i64 a1_1) := (blk_cell BK106.out 1).trans rfl; have hcz18_2 : w17.cell? ⟨gb106, 2, none⟩ = some (.int .i64 a1_2) := (blk_cell BK106.out 2).trans rfl; have hcz18_3 : w17.cell? ⟨gb106, 3, none⟩ = some (.int .i64 a1_3) := (blk_cell BK106.out 3).trans rfl; have hcz18_4 : w17.cell? ⟨gb106, 4, none⟩ = some (.int .i64 a1_4) := (blk_cell BK106.out 4).trans rfl; have hcz18_5 : w17.cell? ⟨gb106, 5, none⟩ = some (.int .i64 a1_5) := (blk_cell BK106.out 5).trans rfl; have hcz18_6 : w17.cell? ⟨gb106, 6, none⟩ = some (.int .u64 a1_6) := (blk_cell BK106.out 6).trans rfl; have hcz18_7 : w17.cell? ⟨gb106, 7, none⟩ = some (.int .u64 a1_7) := (blk_cell BK106.out 7).trans rfl; have hcz18_8 : w17.cell? ⟨gb106, 8, none⟩ = some (.int .i64 a1_8) := (blk_cell BK106.out 8).trans rfl; have hcz18_9 : w17.cell? ⟨gb106, 9, none⟩ = some (.int .i64 a1_9) := (blk_cell BK106.out 9).trans rfl; have hcz18_10 : w17.cell? ⟨gb106, 10, none⟩ = some (.bool a1_10) := (blk_cell BK106.out 10).trans rfl; have hcz18_11 : w17.cell? ⟨gb106, 11, none⟩ = some (.int .u64 a1_11) := (blk_cell BK106.out 11).trans rfl; have hcz18_12 : w17.cell? ⟨gb106, 12, none⟩ = some (.slice A1_12 l1_12.length c1_12) := (blk_cell BK106.out 12).trans rfl; have hfz18_0 := blk_frozen BK106.out 0; have hfz18_1 := blk_frozen BK106.out 1; have hfz18_2 := blk_frozen BK106.out 2; have hfz18_3 := blk_frozen BK106.out 3; have hfz18_4 := blk_frozen BK106.out 4; have hfz18_5 := blk_frozen BK106.out 5; have hfz18_6 := blk_frozen BK106.out 6; have hfz18_7 := blk_frozen BK106.out 7; have hfz18_8 := blk_frozen BK106.out 8; have hfz18_9 := blk_frozen BK106.out 9; have hfz18_10 := blk_frozen BK106.out 10; have hfz18_11 := blk_frozen BK106.out 11; have hfz18_12 := blk_frozen BK106.out 12; have hcz19_0 : w17.cell? ⟨gb107, 0, none⟩ = some (.int .i64 a2_0) := (blk_cell BK107.out 0).trans rfl; have hcz19_1 : w17.cell? ⟨gb107, 1, none⟩ = some (.int .i64 a2_1) := (blk_cell BK107.out 1).trans rfl; have hcz19_2 : w17.cell? ⟨gb107, 2, none⟩ = some (.int .i64 a2_2) := (blk_cell BK107.out 2).trans rfl; have hcz19_3 : w17.cell? ⟨gb107, 3, none⟩ = some (.int .i64 a2_3) := (blk_cell BK107.out 3).trans rfl; have hcz19_4 : w17.cell? ⟨gb107, 4, none⟩ = some (.int .i64 a2_4) := (blk_cell BK107.out 4).trans rfl; have hcz19_5 : w17.cell? ⟨gb107, 5, none⟩ = some (.int .i64 a2_5) := (blk_cell BK107.out 5).trans rfl; have hcz19_6 : w17.cell? ⟨gb107, 6, none⟩ = some (.int .u64 a2_6) := (blk_cell BK107.out 6).trans rfl; have hcz19_7 : w17.cell? ⟨gb107, 7, none⟩ = some (.int .u64 a2_7) := (blk_cell BK107.out 7).trans rfl; have hcz19_8 : w17.cell? ⟨gb107, 8, none⟩ = some (.int .i64 a2_8) := (blk_cell BK107.out 8).trans rfl; have hcz19_9 : w17.cell? ⟨gb107, 9, none⟩ = some (.int .i64 a2_9) := (blk_cell BK107.out 9).trans rfl; have hcz19_10 : w17.cell? ⟨gb107, 10, none⟩ = some (.bool a2_10) := (blk_cell BK107.out 10).trans rfl; have hcz19_11 : w17.cell? ⟨gb107, 11, none⟩ = some (.int .u64 a2_11) := (blk_cell BK107.out 11).trans rfl; have hcz19_12 : w17.cell? ⟨gb107, 12, none⟩ = some (.slice A2_12 l2_12.length c2_12) := (blk_cell BK107.out 12).trans rfl; have hfz19_0 := blk_frozen BK107.out 0; have hfz19_1 := blk_frozen BK107.out 1; have hfz19_2 := blk_frozen BK107.out 2; have hfz19_3 := blk_frozen BK107.out 3; have hfz19_4 := blk_frozen BK107.out 4; have hfz19_5 := blk_frozen BK107.out 5; have hfz19_6 := blk_frozen BK107.out 6; have hfz19_7 := blk_frozen BK107.out 7; have hfz19_8 := blk_frozen BK107.out 8; have hfz19_9 := blk_frozen BK107.out 9; have hfz19_10 := blk_frozen BK107.out 10; have hfz19_11 := blk_frozen BK107.out 11; have hfz19_12 := blk_frozen BK107.out 12) | ((with_reducible refine gate_callee (f := 19) rfl ?_); refine goesL_ (some 16) rfl rfl Try.func19 (by kernel_rfl) rfl #[.agg #[.int .i64 a1_0, .int .i64 a1_1, .int .i64 a1_2, .int .i64 a1_3, .int .i64 a1_4, .int .i64 a1_5, .int .u64 a1_6, .int .u64 a1_7, .int .i64 a1_8, .int .i64 a1_9, .bool a1_10, .int .u64 a1_11, .slice A1_12 l1_12.length c1_12], .agg #[.int .i64 a2_0, .int .i64 a2_1, .int .i64 a2_2, .int .i64 a2_3, .int .i64 a2_4, .int .i64 a2_5, .int .u64 a2_6, .int .u64 a2_7, .int .i64 a2_8, .int .i64 a2_9, .bool a2_10, .int .u64 a2_11, .slice A2_12 l2_12.length c2_12]] rfl (by (try simp only [List.map_toArray, List.map_cons, List.map_nil]); first | done | rfl | (simp only [List.length_drop, List.length_take]; rfl)) ?_; (with_reducible refine (history_Before.calls a1_0 a1_1 a1_2 a1_3 a1_4 a1_5 a1_6 a1_7 a1_8 a1_9 a1_10 a1_11 _ _ l1_12 a2_0 a2_1 a2_2 a2_3 a2_4 a2_5 a2_6 a2_7 a2_8 a2_9 a2_10 a2_11 _ _ l2_12 t110 _ ?side1 ?side2 ?side3 ?side4 A6.out).mono ?_); (case side1 => repeat (first | exact (Kd.C_below HR1_12.out HB.out) | (with_reducible refine Kd.C_alloc ?_ _) | (with_reducible refine Kd.C_drewN ?_ _) | (with_reducible refine Kd.C_drew ?_))); (case side2 => exact HC1_12.out); (case side3 => repeat (first | exact (Kd.C_below HR2_12.out HB.out) | (with_reducible refine Kd.C_alloc ?_ _) | (with_reducible refine Kd.C_drewN ?_ _) | (with_reducible refine Kd.C_drew ?_))); (case side4 => exact HC2_12.out); rintro e w20 ⟨rfl, hb⟩; refine ⟨_, rfl, ?_⟩; have n0_ := Aside0.mk (blk_below (g := gb105) (o := .cells #[.int .i64 a0_0, .int .i64 a0_1, .int .i64 a0_2, .int .i64 a0_3, .int .i64 a0_4, .int .i64 a0_5, .int .u64 a0_6, .int .u64 a0_7, .int .i64 a0_8, .int .i64 a0_9, .bool a0_10, .int .u64 a0_11, .slice A0_12 l0_12.length c0_12] 31 (0, 0)) (by (with_reducible repeat (first | refine blk_drewN ?_ _ | refine blk_drew ?_ | refine blk_alloc ?_ _)); exact BK105.out) hb); have n1_ := Aside0.mk (blk_below (g := gb106) (o := .cells #[.int .i64 a1_0, .int .i64 a1_1, .int .i64 a1_2, .int .i64 a1_3, .int .i64 a1_4, .int .i64 a1_5, .int .u64 a1_6, .int .u64 a1_7, .int .i64 a1_8, .int .i64 a1_9, .bool a1_10, .int .u64 a1_11, .slice A1_12 l1_12.length c1_12] 31 (0, 0)) (by (with_reducible repeat (first | refine blk_drewN ?_ _ | refine blk_drew ?_ | refine blk_alloc ?_ _)); exact BK106.out) hb); have n2_ := Aside0.mk (blk_below (g := gb107) (o := .cells #[.int .i64 a2_0, .int .i64 a2_1, .int .i64 a2_2, .int .i64 a2_3, .int .i64 a2_4, .int .i64 a2_5, .int .u64 a2_6, .int .u64 a2_7, .int .i64 a2_8, .int .i64 a2_9, .bool a2_10, .int .u64 a2_11, .slice A2_12 l2_12.length c2_12] 31 (0, 0)) (by (with_reducible repeat (first | refine blk_drewN ?_ _ | refine blk_drew ?_ | refine blk_alloc ?_ _)); exact BK107.out) hb); have n3_ := Aside0.mk (below_step (by repeat (first | (with_reducible first | exact HB.out | apply below_alloc | apply pw_below_drewN | apply below_drew1 | refine below_set ?_ GE105.out | refine below_set ?_ GE106.out | refine below_set ?_ GE107.out) | exact HB.out)) hb); clear BK105; clear BK106; clear BK107; clear HB; have BK105 := n0_; have BK106 := n1_; have BK107 := n2_; have HB := n3_; clear n0_ n1_ n2_ n3_; (try clear hb); (try clear hb2); (try clear hk); (try clear hi)))
  (try simp only [Act.put, List.setIfInBounds_toArray, List.set_cons_zero, List.set_cons_succ])
  go_cut [38] (fun v38 wc => ∃ (kq : Nat) (x38_6 : Bool), v38 = .bool x38_6 ∧ Aside0 (corrielaw19_HistoryOrder.j0 kq t108 t109 t110 x38_6 a0_0 a0_1 a0_2 a0_3 a0_4 a0_5 a0_6 a0_7 a0_8 a0_9 a0_10 a0_11 l0_12 a1_0 a1_1 a1_2 a1_3 a1_4 a1_5 a1_6 a1_7 a1_8 a1_9 a1_10 a1_11 l1_12 a2_0 a2_1 a2_2 a2_3 a2_4 a2_5 a2_6 a2_7 a2_8 a2_9 a2_10 a2_11 l2_12 = some r) ∧ Aside0 (kq ≤ k) ∧ Aside0 (wc.heap[gb105]? = some (.cells #[.int .i64 a0_0, .int .i64 a0_1, .int .i64 a0_2, .int .i64 a0_3, .int .i64 a0_4, .int .i64 a0_5, .int .u64 a0_6, .int .u64 a0_7, .int .i64 a0_8, .int .i64 a0_9, .bool a0_10, .int .u64 a0_11, (.slice A0_12 l0_12.length c0_12)] 31 (0, 0))) ∧ Aside0 (wc.heap[gb106]? = some (.cells #[.int .i64 a1_0, .int .i64 a1_1, .int .i64 a1_2, .int .i64 a1_3, .int .i64 a1_4, .int .i64 a1_5, .int .u64 a1_6, .int .u64 a1_7, .int .i64 a1_8, .int .i64 a1_9, .bool a1_10, .int .u64 a1_11, (.slice A1_12 l1_12.length c1_12)] 31 (0, 0))) ∧ Aside0 (wc.heap[gb107]? = some (.cells #[.int .i64 a2_0, .int .i64 a2_1, .int .i64 a2_2, .int .i64 a2_3, .int .i64 a2_4, .int .i64 a2_5, .int .u64 a2_6, .int .u64 a2_7, .int .i64 a2_8, .int .i64 a2_9, .bool a2_10, .int .u64 a2_11, (.slice A2_12 l2_12.length c2_12)] 31 (0, 0))) ∧ Aside0 (Below w.heap.size w wc))
  case first =>
    have H := HC7.out
    clear HC7
    by_cases c21 : a0_3 ≥ 0
    · rw [if_pos c21] at H
      have c21b0 : decide (0 ≤ a0_3) = true := decide_eq_true c21
      clear c21
      (first | rw [c21b0] | (simp only [i64_w, i32_w]; rw [c21b0]) | skip)
      by_cases c22 : a0_3 < a0_2
      · rw [if_pos c22] at H
        have c22b0 : decide (a0_3 < a0_2) = true := decide_eq_true c22
        clear c22
        have H' := Aside0.mk H
        clear H
        have hnb23 := NB105_106.out
        have hnc23 := NB106_105.out
        have hnb24 := NB105_107.out
        have hnc24 := NB107_105.out
        have hcz25_0 : w20.cell? ⟨gb105, 0, none⟩ = some (.int .i64 a0_0) := (blk_cell BK105.out 0).trans rfl
        have hcz25_1 : w20.cell? ⟨gb105, 1, none⟩ = some (.int .i64 a0_1) := (blk_cell BK105.out 1).trans rfl
        have hcz25_2 : w20.cell? ⟨gb105, 2, none⟩ = some (.int .i64 a0_2) := (blk_cell BK105.out 2).trans rfl
        have hcz25_3 : w20.cell? ⟨gb105, 3, none⟩ = some (.int .i64 a0_3) := (blk_cell BK105.out 3).trans rfl
        have hcz25_4 : w20.cell? ⟨gb105, 4, none⟩ = some (.int .i64 a0_4) := (blk_cell BK105.out 4).trans rfl
        have hcz25_5 : w20.cell? ⟨gb105, 5, none⟩ = some (.int .i64 a0_5) := (blk_cell BK105.out 5).trans rfl
        have hcz25_6 : w20.cell? ⟨gb105, 6, none⟩ = some (.int .u64 a0_6) := (blk_cell BK105.out 6).trans rfl
        have hcz25_7 : w20.cell? ⟨gb105, 7, none⟩ = some (.int .u64 a0_7) := (blk_cell BK105.out 7).trans rfl
        have hcz25_8 : w20.cell? ⟨gb105, 8, none⟩ = some (.int .i64 a0_8) := (blk_cell BK105.out 8).trans rfl
        have hcz25_9 : w20.cell? ⟨gb105, 9, none⟩ = some (.int .i64 a0_9) := (blk_cell BK105.out 9).trans rfl
        have hcz25_10 : w20.cell? ⟨gb105, 10, none⟩ = some (.bool a0_10) := (blk_cell BK105.out 10).trans rfl
        have hcz25_11 : w20.cell? ⟨gb105, 11, none⟩ = some (.int .u64 a0_11) := (blk_cell BK105.out 11).trans rfl
        have hcz25_12 : w20.cell? ⟨gb105, 12, none⟩ = some (.slice A0_12 l0_12.length c0_12) := (blk_cell BK105.out 12).trans rfl
        have hfz25_0 := blk_frozen BK105.out 0
        have hfz25_1 := blk_frozen BK105.out 1
        have hfz25_2 := blk_frozen BK105.out 2
        have hfz25_3 := blk_frozen BK105.out 3
        have hfz25_4 := blk_frozen BK105.out 4
        have hfz25_5 := blk_frozen BK105.out 5
        have hfz25_6 := blk_frozen BK105.out 6
        have hfz25_7 := blk_frozen BK105.out 7
        have hfz25_8 := blk_frozen BK105.out 8
        have hfz25_9 := blk_frozen BK105.out 9
        have hfz25_10 := blk_frozen BK105.out 10
        have hfz25_11 := blk_frozen BK105.out 11
        have hfz25_12 := blk_frozen BK105.out 12
        go_wp2
        go_meet
        case rel => exact ⟨_, (true), (by first | rfl | (simp; done) | (simp [*]; done)), H', ⟨by first | omega | exact Nat.le_refl _⟩, ⟨by (with_reducible repeat (first | refine blk_drewN ?_ _ | refine blk_drew ?_ | refine blk_alloc ?_ _)); exact BK105.out⟩, ⟨by (with_reducible repeat (first | refine blk_drewN ?_ _ | refine blk_drew ?_ | refine blk_alloc ?_ _)); exact BK106.out⟩, ⟨by (with_reducible repeat (first | refine blk_drewN ?_ _ | refine blk_drew ?_ | refine blk_alloc ?_ _)); exact BK107.out⟩, ⟨by repeat (first | (with_reducible first | exact HB.out | apply below_alloc | apply pw_below_drewN | apply below_drew1 | refine below_set ?_ GE105.out | refine below_set ?_ GE106.out | refine below_set ?_ GE107.out) | exact HB.out)⟩⟩
      · rw [if_neg c22] at H
        have c22b0 : decide (a0_3 < a0_2) = false := decide_eq_false c22
        clear c22
        by_cases c26 : a1_3 ≥ 0
        · rw [if_pos c26] at H
          have c26b0 : decide (0 ≤ a1_3) = true := decide_eq_true c26
          clear c26
          have H' := Aside0.mk H
          clear H
          have hnb27 := NB105_106.out
          have hnc27 := NB106_105.out
          have hnb28 := NB105_107.out
          have hnc28 := NB107_105.out
          have hcz29_0 : w20.cell? ⟨gb105, 0, none⟩ = some (.int .i64 a0_0) := (blk_cell BK105.out 0).trans rfl
          have hcz29_1 : w20.cell? ⟨gb105, 1, none⟩ = some (.int .i64 a0_1) := (blk_cell BK105.out 1).trans rfl
          have hcz29_2 : w20.cell? ⟨gb105, 2, none⟩ = some (.int .i64 a0_2) := (blk_cell BK105.out 2).trans rfl
          have hcz29_3 : w20.cell? ⟨gb105, 3, none⟩ = some (.int .i64 a0_3) := (blk_cell BK105.out 3).trans rfl
          have hcz29_4 : w20.cell? ⟨gb105, 4, none⟩ = some (.int .i64 a0_4) := (blk_cell BK105.out 4).trans rfl
          have hcz29_5 : w20.cell? ⟨gb105, 5, none⟩ = some (.int .i64 a0_5) := (blk_cell BK105.out 5).trans rfl
          have hcz29_6 : w20.cell? ⟨gb105, 6, none⟩ = some (.int .u64 a0_6) := (blk_cell BK105.out 6).trans rfl
          have hcz29_7 : w20.cell? ⟨gb105, 7, none⟩ = some (.int .u64 a0_7) := (blk_cell BK105.out 7).trans rfl
          have hcz29_8 : w20.cell? ⟨gb105, 8, none⟩ = some (.int .i64 a0_8) := (blk_cell BK105.out 8).trans rfl
          have hcz29_9 : w20.cell? ⟨gb105, 9, none⟩ = some (.int .i64 a0_9) := (blk_cell BK105.out 9).trans rfl
          have hcz29_10 : w20.cell? ⟨gb105, 10, none⟩ = some (.bool a0_10) := (blk_cell BK105.out 10).trans rfl
          have hcz29_11 : w20.cell? ⟨gb105, 11, none⟩ = some (.int .u64 a0_11) := (blk_cell BK105.out 11).trans rfl
          have hcz29_12 : w20.cell? ⟨gb105, 12, none⟩ = some (.slice A0_12 l0_12.length c0_12) := (blk_cell BK105.out 12).trans rfl
          have hfz29_0 := blk_frozen BK105.out 0
          have hfz29_1 := blk_frozen BK105.out 1
          have hfz29_2 := blk_frozen BK105.out 2
          have hfz29_3 := blk_frozen BK105.out 3
          have hfz29_4 := blk_frozen BK105.out 4
          have hfz29_5 := blk_frozen BK105.out 5
          have hfz29_6 := blk_frozen BK105.out 6
          have hfz29_7 := blk_frozen BK105.out 7
          have hfz29_8 := blk_frozen BK105.out 8
          have hfz29_9 := blk_frozen BK105.out 9
          have hfz29_10 := blk_frozen BK105.out 10
          have hfz29_11 := blk_frozen BK105.out 11
          have hfz29_12 := blk_frozen BK105.out 12
          have hnb30 := NB106_107.out
          have hnc30 := NB107_106.out
          have hcz31_0 : w20.cell? ⟨gb106, 0, none⟩ = some (.int .i64 a1_0) := (blk_cell BK106.out 0).trans rfl
          have hcz31_1 : w20.cell? ⟨gb106, 1, none⟩ = some (.int .i64 a1_1) := (blk_cell BK106.out 1).trans rfl
          have hcz31_2 : w20.cell? ⟨gb106, 2, none⟩ = some (.int .i64 a1_2) := (blk_cell BK106.out 2).trans rfl
          have hcz31_3 : w20.cell? ⟨gb106, 3, none⟩ = some (.int .i64 a1_3) := (blk_cell BK106.out 3).trans rfl
          have hcz31_4 : w20.cell? ⟨gb106, 4, none⟩ = some (.int .i64 a1_4) := (blk_cell BK106.out 4).trans rfl
          have hcz31_5 : w20.cell? ⟨gb106, 5, none⟩ = some (.int .i64 a1_5) := (blk_cell BK106.out 5).trans rfl
          have hcz31_6 : w20.cell? ⟨gb106, 6, none⟩ = some (.int .u64 a1_6) := (blk_cell BK106.out 6).trans rfl
          have hcz31_7 : w20.cell? ⟨gb106, 7, none⟩ = some (.int .u64 a1_7) := (blk_cell BK106.out 7).trans rfl
          have hcz31_8 : w20.cell? ⟨gb106, 8, none⟩ = some (.int .i64 a1_8) := (blk_cell BK106.out 8).trans rfl
          have hcz31_9 : w20.cell? ⟨gb106, 9, none⟩ = some (.int .i64 a1_9) := (blk_cell BK106.out 9).trans rfl
          have hcz31_10 : w20.cell? ⟨gb106, 10, none⟩ = some (.bool a1_10) := (blk_cell BK106.out 10).trans rfl
          have hcz31_11 : w20.cell? ⟨gb106, 11, none⟩ = some (.int .u64 a1_11) := (blk_cell BK106.out 11).trans rfl
          have hcz31_12 : w20.cell? ⟨gb106, 12, none⟩ = some (.slice A1_12 l1_12.length c1_12) := (blk_cell BK106.out 12).trans rfl
          have hfz31_0 := blk_frozen BK106.out 0
          have hfz31_1 := blk_frozen BK106.out 1
          have hfz31_2 := blk_frozen BK106.out 2
          have hfz31_3 := blk_frozen BK106.out 3
          have hfz31_4 := blk_frozen BK106.out 4
          have hfz31_5 := blk_frozen BK106.out 5
          have hfz31_6 := blk_frozen BK106.out 6
          have hfz31_7 := blk_frozen BK106.out 7
          have hfz31_8 := blk_frozen BK106.out 8
          have hfz31_9 := blk_frozen BK106.out 9
          have hfz31_10 := blk_frozen BK106.out 10
          have hfz31_11 := blk_frozen BK106.out 11
          have hfz31_12 := blk_frozen BK106.out 12
          go_wp2
          go_meet
          case rel => exact ⟨_, (decide (a1_3 < a1_2)), (by first | rfl | (simp; done) | (simp [*]; done)), H', ⟨by first | omega | exact Nat.le_refl _⟩, ⟨by (with_reducible repeat (first | refine blk_drewN ?_ _ | refine blk_drew ?_ | refine blk_alloc ?_ _)); exact BK105.out⟩, ⟨by (with_reducible repeat (first | refine blk_drewN ?_ _ | refine blk_drew ?_ | refine blk_alloc ?_ _)); exact BK106.out⟩, ⟨by (with_reducible repeat (first | refine blk_drewN ?_ _ | refine blk_drew ?_ | refine blk_alloc ?_ _)); exact BK107.out⟩, ⟨by repeat (first | (with_reducible first | exact HB.out | apply below_alloc | apply pw_below_drewN | apply below_drew1 | refine below_set ?_ GE105.out | refine below_set ?_ GE106.out | refine below_set ?_ GE107.out) | exact HB.out)⟩⟩
        · rw [if_neg c26] at H
          have c26b0 : decide (0 ≤ a1_3) = false := decide_eq_false c26
          clear c26
          have H' := Aside0.mk H
          clear H
          have hnb32 := NB105_106.out
          have hnc32 := NB106_105.out
          have hnb33 := NB105_107.out
          have hnc33 := NB107_105.out
          have hcz34_0 : w20.cell? ⟨gb105, 0, none⟩ = some (.int .i64 a0_0) := (blk_cell BK105.out 0).trans rfl
          have hcz34_1 : w20.cell? ⟨gb105, 1, none⟩ = some (.int .i64 a0_1) := (blk_cell BK105.out 1).trans rfl
          have hcz34_2 : w20.cell? ⟨gb105, 2, none⟩ = some (.int .i64 a0_2) := (blk_cell BK105.out 2).trans rfl
          have hcz34_3 : w20.cell? ⟨gb105, 3, none⟩ = some (.int .i64 a0_3) := (blk_cell BK105.out 3).trans rfl
          have hcz34_4 : w20.cell? ⟨gb105, 4, none⟩ = some (.int .i64 a0_4) := (blk_cell BK105.out 4).trans rfl
          have hcz34_5 : w20.cell? ⟨gb105, 5, none⟩ = some (.int .i64 a0_5) := (blk_cell BK105.out 5).trans rfl
          have hcz34_6 : w20.cell? ⟨gb105, 6, none⟩ = some (.int .u64 a0_6) := (blk_cell BK105.out 6).trans rfl
          have hcz34_7 : w20.cell? ⟨gb105, 7, none⟩ = some (.int .u64 a0_7) := (blk_cell BK105.out 7).trans rfl
          have hcz34_8 : w20.cell? ⟨gb105, 8, none⟩ = some (.int .i64 a0_8) := (blk_cell BK105.out 8).trans rfl
          have hcz34_9 : w20.cell? ⟨gb105, 9, none⟩ = some (.int .i64 a0_9) := (blk_cell BK105.out 9).trans rfl
          have hcz34_10 : w20.cell? ⟨gb105, 10, none⟩ = some (.bool a0_10) := (blk_cell BK105.out 10).trans rfl
          have hcz34_11 : w20.cell? ⟨gb105, 11, none⟩ = some (.int .u64 a0_11) := (blk_cell BK105.out 11).trans rfl
          have hcz34_12 : w20.cell? ⟨gb105, 12, none⟩ = some (.slice A0_12 l0_12.length c0_12) := (blk_cell BK105.out 12).trans rfl
          have hfz34_0 := blk_frozen BK105.out 0
          have hfz34_1 := blk_frozen BK105.out 1
          have hfz34_2 := blk_frozen BK105.out 2
          have hfz34_3 := blk_frozen BK105.out 3
          have hfz34_4 := blk_frozen BK105.out 4
          have hfz34_5 := blk_frozen BK105.out 5
          have hfz34_6 := blk_frozen BK105.out 6
          have hfz34_7 := blk_frozen BK105.out 7
          have hfz34_8 := blk_frozen BK105.out 8
          have hfz34_9 := blk_frozen BK105.out 9
          have hfz34_10 := blk_frozen BK105.out 10
          have hfz34_11 := blk_frozen BK105.out 11
          have hfz34_12 := blk_frozen BK105.out 12
          have hnb35 := NB106_107.out
          have hnc35 := NB107_106.out
          have hcz36_0 : w20.cell? ⟨gb106, 0, none⟩ = some (.int .i64 a1_0) := (blk_cell BK106.out 0).trans rfl
          have hcz36_1 : w20.cell? ⟨gb106, 1, none⟩ = some (.int .i64 a1_1) := (blk_cell BK106.out 1).trans rfl
          have hcz36_2 : w20.cell? ⟨gb106, 2, none⟩ = some (.int .i64 a1_2) := (blk_cell BK106.out 2).trans rfl
          have hcz36_3 : w20.cell? ⟨gb106, 3, none⟩ = some (.int .i64 a1_3) := (blk_cell BK106.out 3).trans rfl
          have hcz36_4 : w20.cell? ⟨gb106, 4, none⟩ = some (.int .i64 a1_4) := (blk_cell BK106.out 4).trans rfl
          have hcz36_5 : w20.cell? ⟨gb106, 5, none⟩ = some (.int .i64 a1_5) := (blk_cell BK106.out 5).trans rfl
          have hcz36_6 : w20.cell? ⟨gb106, 6, none⟩ = some (.int .u64 a1_6) := (blk_cell BK106.out 6).trans rfl
          have hcz36_7 : w20.cell? ⟨gb106, 7, none⟩ = some (.int .u64 a1_7) := (blk_cell BK106.out 7).trans rfl
          have hcz36_8 : w20.cell? ⟨gb106, 8, none⟩ = some (.int .i64 a1_8) := (blk_cell BK106.out 8).trans rfl
          have hcz36_9 : w20.cell? ⟨gb106, 9, none⟩ = some (.int .i64 a1_9) := (blk_cell BK106.out 9).trans rfl
          have hcz36_10 : w20.cell? ⟨gb106, 10, none⟩ = some (.bool a1_10) := (blk_cell BK106.out 10).trans rfl
          have hcz36_11 : w20.cell? ⟨gb106, 11, none⟩ = some (.int .u64 a1_11) := (blk_cell BK106.out 11).trans rfl
          have hcz36_12 : w20.cell? ⟨gb106, 12, none⟩ = some (.slice A1_12 l1_12.length c1_12) := (blk_cell BK106.out 12).trans rfl
          have hfz36_0 := blk_frozen BK106.out 0
          have hfz36_1 := blk_frozen BK106.out 1
          have hfz36_2 := blk_frozen BK106.out 2
          have hfz36_3 := blk_frozen BK106.out 3
          have hfz36_4 := blk_frozen BK106.out 4
          have hfz36_5 := blk_frozen BK106.out 5
          have hfz36_6 := blk_frozen BK106.out 6
          have hfz36_7 := blk_frozen BK106.out 7
          have hfz36_8 := blk_frozen BK106.out 8
          have hfz36_9 := blk_frozen BK106.out 9
          have hfz36_10 := blk_frozen BK106.out 10
          have hfz36_11 := blk_frozen BK106.out 11
          have hfz36_12 := blk_frozen BK106.out 12
          go_wp2
          go_meet
          case rel => exact ⟨_, (false), (by first | rfl | (simp; done) | (simp [*]; done)), H', ⟨by first | omega | exact Nat.le_refl _⟩, ⟨by (with_reducible repeat (first | refine blk_drewN ?_ _ | refine blk_drew ?_ | refine blk_alloc ?_ _)); exact BK105.out⟩, ⟨by (with_reducible repeat (first | refine blk_drewN ?_ _ | refine blk_drew ?_ | refine blk_alloc ?_ _)); exact BK106.out⟩, ⟨by (with_reducible repeat (first | refine blk_drewN ?_ _ | refine blk_drew ?_ | refine blk_alloc ?_ _)); exact BK107.out⟩, ⟨by repeat (first | (with_reducible first | exact HB.out | apply below_alloc | apply pw_below_drewN | apply below_drew1 | refine below_set ?_ GE105.out | refine below_set ?_ GE106.out | refine below_set ?_ GE107.out) | exact HB.out)⟩⟩
    · rw [if_neg c21] at H
      have c21b0 : decide (0 ≤ a0_3) = false := decide_eq_false c21
      clear c21
      (first | rw [c21b0] | (simp only [i64_w, i32_w]; rw [c21b0]) | skip)
      by_cases c37 : a1_3 ≥ 0
      · rw [if_pos c37] at H
        have c37b0 : decide (0 ≤ a1_3) = true := decide_eq_true c37
        clear c37
        have H' := Aside0.mk H
        clear H
        have hnb38 := NB105_106.out
        have hnc38 := NB106_105.out
        have hnb39 := NB105_107.out
        have hnc39 := NB107_105.out
        have hcz40_0 : w20.cell? ⟨gb105, 0, none⟩ = some (.int .i64 a0_0) := (blk_cell BK105.out 0).trans rfl
        have hcz40_1 : w20.cell? ⟨gb105, 1, none⟩ = some (.int .i64 a0_1) := (blk_cell BK105.out 1).trans rfl
        have hcz40_2 : w20.cell? ⟨gb105, 2, none⟩ = some (.int .i64 a0_2) := (blk_cell BK105.out 2).trans rfl
        have hcz40_3 : w20.cell? ⟨gb105, 3, none⟩ = some (.int .i64 a0_3) := (blk_cell BK105.out 3).trans rfl
        have hcz40_4 : w20.cell? ⟨gb105, 4, none⟩ = some (.int .i64 a0_4) := (blk_cell BK105.out 4).trans rfl
        have hcz40_5 : w20.cell? ⟨gb105, 5, none⟩ = some (.int .i64 a0_5) := (blk_cell BK105.out 5).trans rfl
        have hcz40_6 : w20.cell? ⟨gb105, 6, none⟩ = some (.int .u64 a0_6) := (blk_cell BK105.out 6).trans rfl
        have hcz40_7 : w20.cell? ⟨gb105, 7, none⟩ = some (.int .u64 a0_7) := (blk_cell BK105.out 7).trans rfl
        have hcz40_8 : w20.cell? ⟨gb105, 8, none⟩ = some (.int .i64 a0_8) := (blk_cell BK105.out 8).trans rfl
        have hcz40_9 : w20.cell? ⟨gb105, 9, none⟩ = some (.int .i64 a0_9) := (blk_cell BK105.out 9).trans rfl
        have hcz40_10 : w20.cell? ⟨gb105, 10, none⟩ = some (.bool a0_10) := (blk_cell BK105.out 10).trans rfl
        have hcz40_11 : w20.cell? ⟨gb105, 11, none⟩ = some (.int .u64 a0_11) := (blk_cell BK105.out 11).trans rfl
        have hcz40_12 : w20.cell? ⟨gb105, 12, none⟩ = some (.slice A0_12 l0_12.length c0_12) := (blk_cell BK105.out 12).trans rfl
        have hfz40_0 := blk_frozen BK105.out 0
        have hfz40_1 := blk_frozen BK105.out 1
        have hfz40_2 := blk_frozen BK105.out 2
        have hfz40_3 := blk_frozen BK105.out 3
        have hfz40_4 := blk_frozen BK105.out 4
        have hfz40_5 := blk_frozen BK105.out 5
        have hfz40_6 := blk_frozen BK105.out 6
        have hfz40_7 := blk_frozen BK105.out 7
        have hfz40_8 := blk_frozen BK105.out 8
        have hfz40_9 := blk_frozen BK105.out 9
        have hfz40_10 := blk_frozen BK105.out 10
        have hfz40_11 := blk_frozen BK105.out 11
        have hfz40_12 := blk_frozen BK105.out 12
        have hnb41 := NB106_107.out
        have hnc41 := NB107_106.out
        have hcz42_0 : w20.cell? ⟨gb106, 0, none⟩ = some (.int .i64 a1_0) := (blk_cell BK106.out 0).trans rfl
        have hcz42_1 : w20.cell? ⟨gb106, 1, none⟩ = some (.int .i64 a1_1) := (blk_cell BK106.out 1).trans rfl
        have hcz42_2 : w20.cell? ⟨gb106, 2, none⟩ = some (.int .i64 a1_2) := (blk_cell BK106.out 2).trans rfl
        have hcz42_3 : w20.cell? ⟨gb106, 3, none⟩ = some (.int .i64 a1_3) := (blk_cell BK106.out 3).trans rfl
        have hcz42_4 : w20.cell? ⟨gb106, 4, none⟩ = some (.int .i64 a1_4) := (blk_cell BK106.out 4).trans rfl
        have hcz42_5 : w20.cell? ⟨gb106, 5, none⟩ = some (.int .i64 a1_5) := (blk_cell BK106.out 5).trans rfl
        have hcz42_6 : w20.cell? ⟨gb106, 6, none⟩ = some (.int .u64 a1_6) := (blk_cell BK106.out 6).trans rfl
        have hcz42_7 : w20.cell? ⟨gb106, 7, none⟩ = some (.int .u64 a1_7) := (blk_cell BK106.out 7).trans rfl
        have hcz42_8 : w20.cell? ⟨gb106, 8, none⟩ = some (.int .i64 a1_8) := (blk_cell BK106.out 8).trans rfl
        have hcz42_9 : w20.cell? ⟨gb106, 9, none⟩ = some (.int .i64 a1_9) := (blk_cell BK106.out 9).trans rfl
        have hcz42_10 : w20.cell? ⟨gb106, 10, none⟩ = some (.bool a1_10) := (blk_cell BK106.out 10).trans rfl
        have hcz42_11 : w20.cell? ⟨gb106, 11, none⟩ = some (.int .u64 a1_11) := (blk_cell BK106.out 11).trans rfl
        have hcz42_12 : w20.cell? ⟨gb106, 12, none⟩ = some (.slice A1_12 l1_12.length c1_12) := (blk_cell BK106.out 12).trans rfl
        have hfz42_0 := blk_frozen BK106.out 0
        have hfz42_1 := blk_frozen BK106.out 1
        have hfz42_2 := blk_frozen BK106.out 2
        have hfz42_3 := blk_frozen BK106.out 3
        have hfz42_4 := blk_frozen BK106.out 4
        have hfz42_5 := blk_frozen BK106.out 5
        have hfz42_6 := blk_frozen BK106.out 6
        have hfz42_7 := blk_frozen BK106.out 7
        have hfz42_8 := blk_frozen BK106.out 8
        have hfz42_9 := blk_frozen BK106.out 9
        have hfz42_10 := blk_frozen BK106.out 10
        have hfz42_11 := blk_frozen BK106.out 11
        have hfz42_12 := blk_frozen BK106.out 12
        go_wp2
        go_meet
        case rel => exact ⟨_, (decide (a1_3 < a1_2)), (by first | rfl | (simp; done) | (simp [*]; done)), H', ⟨by first | omega | exact Nat.le_refl _⟩, ⟨by (with_reducible repeat (first | refine blk_drewN ?_ _ | refine blk_drew ?_ | refine blk_alloc ?_ _)); exact BK105.out⟩, ⟨by (with_reducible repeat (first | refine blk_drewN ?_ _ | refine blk_drew ?_ | refine blk_alloc ?_ _)); exact BK106.out⟩, ⟨by (with_reducible repeat (first | refine blk_drewN ?_ _ | refine blk_drew ?_ | refine blk_alloc ?_ _)); exact BK107.out⟩, ⟨by repeat (first | (with_reducible first | exact HB.out | apply below_alloc | apply pw_below_drewN | apply below_drew1 | refine below_set ?_ GE105.out | refine below_set ?_ GE106.out | refine below_set ?_ GE107.out) | exact HB.out)⟩⟩
      · rw [if_neg c37] at H
        have c37b0 : decide (0 ≤ a1_3) = false := decide_eq_false c37
        clear c37
        have H' := Aside0.mk H
        clear H
        have hnb43 := NB105_106.out
        have hnc43 := NB106_105.out
        have hnb44 := NB105_107.out
        have hnc44 := NB107_105.out
        have hcz45_0 : w20.cell? ⟨gb105, 0, none⟩ = some (.int .i64 a0_0) := (blk_cell BK105.out 0).trans rfl
        have hcz45_1 : w20.cell? ⟨gb105, 1, none⟩ = some (.int .i64 a0_1) := (blk_cell BK105.out 1).trans rfl
        have hcz45_2 : w20.cell? ⟨gb105, 2, none⟩ = some (.int .i64 a0_2) := (blk_cell BK105.out 2).trans rfl
        have hcz45_3 : w20.cell? ⟨gb105, 3, none⟩ = some (.int .i64 a0_3) := (blk_cell BK105.out 3).trans rfl
        have hcz45_4 : w20.cell? ⟨gb105, 4, none⟩ = some (.int .i64 a0_4) := (blk_cell BK105.out 4).trans rfl
        have hcz45_5 : w20.cell? ⟨gb105, 5, none⟩ = some (.int .i64 a0_5) := (blk_cell BK105.out 5).trans rfl
        have hcz45_6 : w20.cell? ⟨gb105, 6, none⟩ = some (.int .u64 a0_6) := (blk_cell BK105.out 6).trans rfl
        have hcz45_7 : w20.cell? ⟨gb105, 7, none⟩ = some (.int .u64 a0_7) := (blk_cell BK105.out 7).trans rfl
        have hcz45_8 : w20.cell? ⟨gb105, 8, none⟩ = some (.int .i64 a0_8) := (blk_cell BK105.out 8).trans rfl
        have hcz45_9 : w20.cell? ⟨gb105, 9, none⟩ = some (.int .i64 a0_9) := (blk_cell BK105.out 9).trans rfl
        have hcz45_10 : w20.cell? ⟨gb105, 10, none⟩ = some (.bool a0_10) := (blk_cell BK105.out 10).trans rfl
        have hcz45_11 : w20.cell? ⟨gb105, 11, none⟩ = some (.int .u64 a0_11) := (blk_cell BK105.out 11).trans rfl
        have hcz45_12 : w20.cell? ⟨gb105, 12, none⟩ = some (.slice A0_12 l0_12.length c0_12) := (blk_cell BK105.out 12).trans rfl
        have hfz45_0 := blk_frozen BK105.out 0
        have hfz45_1 := blk_frozen BK105.out 1
        have hfz45_2 := blk_frozen BK105.out 2
        have hfz45_3 := blk_frozen BK105.out 3
        have hfz45_4 := blk_frozen BK105.out 4
        have hfz45_5 := blk_frozen BK105.out 5
        have hfz45_6 := blk_frozen BK105.out 6
        have hfz45_7 := blk_frozen BK105.out 7
        have hfz45_8 := blk_frozen BK105.out 8
        have hfz45_9 := blk_frozen BK105.out 9
        have hfz45_10 := blk_frozen BK105.out 10
        have hfz45_11 := blk_frozen BK105.out 11
        have hfz45_12 := blk_frozen BK105.out 12
        have hnb46 := NB106_107.out
        have hnc46 := NB107_106.out
        have hcz47_0 : w20.cell? ⟨gb106, 0, none⟩ = some (.int .i64 a1_0) := (blk_cell BK106.out 0).trans rfl
        have hcz47_1 : w20.cell? ⟨gb106, 1, none⟩ = some (.int .i64 a1_1) := (blk_cell BK106.out 1).trans rfl
        have hcz47_2 : w20.cell? ⟨gb106, 2, none⟩ = some (.int .i64 a1_2) := (blk_cell BK106.out 2).trans rfl
        have hcz47_3 : w20.cell? ⟨gb106, 3, none⟩ = some (.int .i64 a1_3) := (blk_cell BK106.out 3).trans rfl
        have hcz47_4 : w20.cell? ⟨gb106, 4, none⟩ = some (.int .i64 a1_4) := (blk_cell BK106.out 4).trans rfl
        have hcz47_5 : w20.cell? ⟨gb106, 5, none⟩ = some (.int .i64 a1_5) := (blk_cell BK106.out 5).trans rfl
        have hcz47_6 : w20.cell? ⟨gb106, 6, none⟩ = some (.int .u64 a1_6) := (blk_cell BK106.out 6).trans rfl
        have hcz47_7 : w20.cell? ⟨gb106, 7, none⟩ = some (.int .u64 a1_7) := (blk_cell BK106.out 7).trans rfl
        have hcz47_8 : w20.cell? ⟨gb106, 8, none⟩ = some (.int .i64 a1_8) := (blk_cell BK106.out 8).trans rfl
        have hcz47_9 : w20.cell? ⟨gb106, 9, none⟩ = some (.int .i64 a1_9) := (blk_cell BK106.out 9).trans rfl
        have hcz47_10 : w20.cell? ⟨gb106, 10, none⟩ = some (.bool a1_10) := (blk_cell BK106.out 10).trans rfl
        have hcz47_11 : w20.cell? ⟨gb106, 11, none⟩ = some (.int .u64 a1_11) := (blk_cell BK106.out 11).trans rfl
        have hcz47_12 : w20.cell? ⟨gb106, 12, none⟩ = some (.slice A1_12 l1_12.length c1_12) := (blk_cell BK106.out 12).trans rfl
        have hfz47_0 := blk_frozen BK106.out 0
        have hfz47_1 := blk_frozen BK106.out 1
        have hfz47_2 := blk_frozen BK106.out 2
        have hfz47_3 := blk_frozen BK106.out 3
        have hfz47_4 := blk_frozen BK106.out 4
        have hfz47_5 := blk_frozen BK106.out 5
        have hfz47_6 := blk_frozen BK106.out 6
        have hfz47_7 := blk_frozen BK106.out 7
        have hfz47_8 := blk_frozen BK106.out 8
        have hfz47_9 := blk_frozen BK106.out 9
        have hfz47_10 := blk_frozen BK106.out 10
        have hfz47_11 := blk_frozen BK106.out 11
        have hfz47_12 := blk_frozen BK106.out 12
        go_wp2
        go_meet
        case rel => exact ⟨_, (false), (by first | rfl | (simp; done) | (simp [*]; done)), H', ⟨by first | omega | exact Nat.le_refl _⟩, ⟨by (with_reducible repeat (first | refine blk_drewN ?_ _ | refine blk_drew ?_ | refine blk_alloc ?_ _)); exact BK105.out⟩, ⟨by (with_reducible repeat (first | refine blk_drewN ?_ _ | refine blk_drew ?_ | refine blk_alloc ?_ _)); exact BK106.out⟩, ⟨by (with_reducible repeat (first | refine blk_drewN ?_ _ | refine blk_drew ?_ | refine blk_alloc ?_ _)); exact BK107.out⟩, ⟨by repeat (first | (with_reducible first | exact HB.out | apply below_alloc | apply pw_below_drewN | apply below_drew1 | refine below_set ?_ GE105.out | refine below_set ?_ GE106.out | refine below_set ?_ GE107.out) | exact HB.out)⟩⟩
  case rest =>
    clear HC7
    try clear c1
    try clear c2
    try clear p2
    try clear c3
    try clear c4
    try clear c8
    try clear c12
    try clear c13
    try clear c15
    try clear c19
    try clear c21
    try clear c21b0
    try clear c22
    try clear c22b0
    try clear c23
    try clear c24
    try clear c26
    try clear c26b0
    try clear c27
    try clear c28
    try clear c30
    try clear c32
    try clear c33
    try clear c35
    try clear c37
    try clear c37b0
    try clear c38
    try clear c39
    try clear c41
    try clear c43
    try clear c44
    try clear c46
    try clear hcz14_0
    try clear hcz14_1
    try clear hcz14_10
    try clear hcz14_11
    try clear hcz14_12
    try clear hcz14_2
    try clear hcz14_3
    try clear hcz14_4
    try clear hcz14_5
    try clear hcz14_6
    try clear hcz14_7
    try clear hcz14_8
    try clear hcz14_9
    try clear hcz16_0
    try clear hcz16_1
    try clear hcz16_10
    try clear hcz16_11
    try clear hcz16_12
    try clear hcz16_2
    try clear hcz16_3
    try clear hcz16_4
    try clear hcz16_5
    try clear hcz16_6
    try clear hcz16_7
    try clear hcz16_8
    try clear hcz16_9
    try clear hcz18_0
    try clear hcz18_1
    try clear hcz18_10
    try clear hcz18_11
    try clear hcz18_12
    try clear hcz18_2
    try clear hcz18_3
    try clear hcz18_4
    try clear hcz18_5
    try clear hcz18_6
    try clear hcz18_7
    try clear hcz18_8
    try clear hcz18_9
    try clear hcz19_0
    try clear hcz19_1
    try clear hcz19_10
    try clear hcz19_11
    try clear hcz19_12
    try clear hcz19_2
    try clear hcz19_3
    try clear hcz19_4
    try clear hcz19_5
    try clear hcz19_6
    try clear hcz19_7
    try clear hcz19_8
    try clear hcz19_9
    try clear hcz25_0
    try clear hcz25_1
    try clear hcz25_10
    try clear hcz25_11
    try clear hcz25_12
    try clear hcz25_2
    try clear hcz25_3
    try clear hcz25_4
    try clear hcz25_5
    try clear hcz25_6
    try clear hcz25_7
    try clear hcz25_8
    try clear hcz25_9
    try clear hcz29_0
    try clear hcz29_1
    try clear hcz29_10
    try clear hcz29_11
    try clear hcz29_12
    try clear hcz29_2
    try clear hcz29_3
    try clear hcz29_4
    try clear hcz29_5
    try clear hcz29_6
    try clear hcz29_7
    try clear hcz29_8
    try clear hcz29_9
    try clear hcz31_0
    try clear hcz31_1
    try clear hcz31_10
    try clear hcz31_11
    try clear hcz31_12
    try clear hcz31_2
    try clear hcz31_3
    try clear hcz31_4
    try clear hcz31_5
    try clear hcz31_6
    try clear hcz31_7
    try clear hcz31_8
    try clear hcz31_9
    try clear hcz34_0
    try clear hcz34_1
    try clear hcz34_10
    try clear hcz34_11
    try clear hcz34_12
    try clear hcz34_2
    try clear hcz34_3
    try clear hcz34_4
    try clear hcz34_5
    try clear hcz34_6
    try clear hcz34_7
    try clear hcz34_8
    try clear hcz34_9
    try clear hcz36_0
    try clear hcz36_1
    try clear hcz36_10
    try clear hcz36_11
    try clear hcz36_12
    try clear hcz36_2
    try clear hcz36_3
    try clear hcz36_4
    try clear hcz36_5
    try clear hcz36_6
    try clear hcz36_7
    try clear hcz36_8
    try clear hcz36_9
    try clear hcz40_0
    try clear hcz40_1
    try clear hcz40_10
    try clear hcz40_11
    try clear hcz40_12
    try clear hcz40_2
    try clear hcz40_3
    try clear hcz40_4
    try clear hcz40_5
    try clear hcz40_6
    try clear hcz40_7
    try clear hcz40_8
    try clear hcz40_9
    try clear hcz42_0
    try clear hcz42_1
    try clear hcz42_10
    try clear hcz42_11
    try clear hcz42_12
    try clear hcz42_2
    try clear hcz42_3
    try clear hcz42_4
    try clear hcz42_5
    try clear hcz42_6
    try clear hcz42_7
    try clear hcz42_8
    try clear hcz42_9
    try clear hcz45_0
    try clear hcz45_1
    try clear hcz45_10
    try clear hcz45_11
    try clear hcz45_12
    try clear hcz45_2
    try clear hcz45_3
    try clear hcz45_4
    try clear hcz45_5
    try clear hcz45_6
    try clear hcz45_7
    try clear hcz45_8
    try clear hcz45_9
    try clear hcz47_0
    try clear hcz47_1
    try clear hcz47_10
    try clear hcz47_11
    try clear hcz47_12
    try clear hcz47_2
    try clear hcz47_3
    try clear hcz47_4
    try clear hcz47_5
    try clear hcz47_6
    try clear hcz47_7
    try clear hcz47_8
    try clear hcz47_9
    try clear hfz14_0
    try clear hfz14_1
    try clear hfz14_10
    try clear hfz14_11
    try clear hfz14_12
    try clear hfz14_2
    try clear hfz14_3
    try clear hfz14_4
    try clear hfz14_5
    try clear hfz14_6
    try clear hfz14_7
    try clear hfz14_8
    try clear hfz14_9
    try clear hfz16_0
    try clear hfz16_1
    try clear hfz16_10
    try clear hfz16_11
    try clear hfz16_12
    try clear hfz16_2
    try clear hfz16_3
    try clear hfz16_4
    try clear hfz16_5
    try clear hfz16_6
    try clear hfz16_7
    try clear hfz16_8
    try clear hfz16_9
    try clear hfz18_0
    try clear hfz18_1
    try clear hfz18_10
    try clear hfz18_11
    try clear hfz18_12
    try clear hfz18_2
    try clear hfz18_3
    try clear hfz18_4
    try clear hfz18_5
    try clear hfz18_6
    try clear hfz18_7
    try clear hfz18_8
    try clear hfz18_9
    try clear hfz19_0
    try clear hfz19_1
    try clear hfz19_10
    try clear hfz19_11
    try clear hfz19_12
    try clear hfz19_2
    try clear hfz19_3
    try clear hfz19_4
    try clear hfz19_5
    try clear hfz19_6
    try clear hfz19_7
    try clear hfz19_8
    try clear hfz19_9
    try clear hfz25_0
    try clear hfz25_1
    try clear hfz25_10
    try clear hfz25_11
    try clear hfz25_12
    try clear hfz25_2
    try clear hfz25_3
    try clear hfz25_4
    try clear hfz25_5
    try clear hfz25_6
    try clear hfz25_7
    try clear hfz25_8
    try clear hfz25_9
    try clear hfz29_0
    try clear hfz29_1
    try clear hfz29_10
    try clear hfz29_11
    try clear hfz29_12
    try clear hfz29_2
    try clear hfz29_3
    try clear hfz29_4
    try clear hfz29_5
    try clear hfz29_6
    try clear hfz29_7
    try clear hfz29_8
    try clear hfz29_9
    try clear hfz31_0
    try clear hfz31_1
    try clear hfz31_10
    try clear hfz31_11
    try clear hfz31_12
    try clear hfz31_2
    try clear hfz31_3
    try clear hfz31_4
    try clear hfz31_5
    try clear hfz31_6
    try clear hfz31_7
    try clear hfz31_8
    try clear hfz31_9
    try clear hfz34_0
    try clear hfz34_1
    try clear hfz34_10
    try clear hfz34_11
    try clear hfz34_12
    try clear hfz34_2
    try clear hfz34_3
    try clear hfz34_4
    try clear hfz34_5
    try clear hfz34_6
    try clear hfz34_7
    try clear hfz34_8
    try clear hfz34_9
    try clear hfz36_0
    try clear hfz36_1
    try clear hfz36_10
    try clear hfz36_11
    try clear hfz36_12
    try clear hfz36_2
    try clear hfz36_3
    try clear hfz36_4
    try clear hfz36_5
    try clear hfz36_6
    try clear hfz36_7
    try clear hfz36_8
    try clear hfz36_9
    try clear hfz40_0
    try clear hfz40_1
    try clear hfz40_10
    try clear hfz40_11
    try clear hfz40_12
    try clear hfz40_2
    try clear hfz40_3
    try clear hfz40_4
    try clear hfz40_5
    try clear hfz40_6
    try clear hfz40_7
    try clear hfz40_8
    try clear hfz40_9
    try clear hfz42_0
    try clear hfz42_1
    try clear hfz42_10
    try clear hfz42_11
    try clear hfz42_12
    try clear hfz42_2
    try clear hfz42_3
    try clear hfz42_4
    try clear hfz42_5
    try clear hfz42_6
    try clear hfz42_7
    try clear hfz42_8
    try clear hfz42_9
    try clear hfz45_0
    try clear hfz45_1
    try clear hfz45_10
    try clear hfz45_11
    try clear hfz45_12
    try clear hfz45_2
    try clear hfz45_3
    try clear hfz45_4
    try clear hfz45_5
    try clear hfz45_6
    try clear hfz45_7
    try clear hfz45_8
    try clear hfz45_9
    try clear hfz47_0
    try clear hfz47_1
    try clear hfz47_10
    try clear hfz47_11
    try clear hfz47_12
    try clear hfz47_2
    try clear hfz47_3
    try clear hfz47_4
    try clear hfz47_5
    try clear hfz47_6
    try clear hfz47_7
    try clear hfz47_8
    try clear hfz47_9
    obtain ⟨kq, x38_6, rfl, HA, HJ6, BK105, BK106, BK107, HB⟩ := hcut
    cases kq with
    | zero => exact absurd HA.out (by simp [corrielaw19_HistoryOrder.j0])
    | succ kj6 =>
      have H := HA.out
      clear HA
      simp only [corrielaw19_HistoryOrder.j0] at H
      by_cases c48 : x38_6 = true
      · subst c48
        have H1 : (if t108 = true then ((corrieref19_Before.f a0_0 a0_1 a0_2 a0_3 a0_4 a0_5 a0_6 a0_7 a0_8 a0_9 a0_10 a0_11 l0_12 a1_0 a1_1 a1_2 a1_3 a1_4 a1_5 a1_6 a1_7 a1_8 a1_9 a1_10 a1_11 l1_12).bind fun t111 => (some (t109 == t111))) else (some false)) = some r := by rw [if_pos rfl] at H; exact H
        clear H
        have H := H1
        clear H1
        by_cases c49 : t108 = true
        · subst c49
          have H1 : ((corrieref19_Before.f a0_0 a0_1 a0_2 a0_3 a0_4 a0_5 a0_6 a0_7 a0_8 a0_9 a0_10 a0_11 l0_12 a1_0 a1_1 a1_2 a1_3 a1_4 a1_5 a1_6 a1_7 a1_8 a1_9 a1_10 a1_11 l1_12).bind fun t111 => (some (t109 == t111))) = some r := by rw [if_pos rfl] at H; exact H
          clear H
          have H := H1
          clear H1
          replace H := Option.bind_eq_some_iff.mp H
          obtain ⟨t111, A500, H⟩ := H
          replace H : (some (t109 == t111)) = some r := H
          have A50 := Aside0.mk A500
          clear A500
          obtain rfl := Option.some.inj H
          have hnb51 := NB105_106.out
          have hnc51 := NB106_105.out
          have hnb52 := NB105_107.out
          have hnc52 := NB107_105.out
          have hcz53_0 : wc.cell? ⟨gb105, 0, none⟩ = some (.int .i64 a0_0) := (blk_cell BK105.out 0).trans rfl
          have hcz53_1 : wc.cell? ⟨gb105, 1, none⟩ = some (.int .i64 a0_1) := (blk_cell BK105.out 1).trans rfl
          have hcz53_2 : wc.cell? ⟨gb105, 2, none⟩ = some (.int .i64 a0_2) := (blk_cell BK105.out 2).trans rfl
          have hcz53_3 : wc.cell? ⟨gb105, 3, none⟩ = some (.int .i64 a0_3) := (blk_cell BK105.out 3).trans rfl
          have hcz53_4 : wc.cell? ⟨gb105, 4, none⟩ = some (.int .i64 a0_4) := (blk_cell BK105.out 4).trans rfl
          have hcz53_5 : wc.cell? ⟨gb105, 5, none⟩ = some (.int .i64 a0_5) := (blk_cell BK105.out 5).trans rfl
          have hcz53_6 : wc.cell? ⟨gb105, 6, none⟩ = some (.int .u64 a0_6) := (blk_cell BK105.out 6).trans rfl
          have hcz53_7 : wc.cell? ⟨gb105, 7, none⟩ = some (.int .u64 a0_7) := (blk_cell BK105.out 7).trans rfl
          have hcz53_8 : wc.cell? ⟨gb105, 8, none⟩ = some (.int .i64 a0_8) := (blk_cell BK105.out 8).trans rfl
          have hcz53_9 : wc.cell? ⟨gb105, 9, none⟩ = some (.int .i64 a0_9) := (blk_cell BK105.out 9).trans rfl
          have hcz53_10 : wc.cell? ⟨gb105, 10, none⟩ = some (.bool a0_10) := (blk_cell BK105.out 10).trans rfl
          have hcz53_11 : wc.cell? ⟨gb105, 11, none⟩ = some (.int .u64 a0_11) := (blk_cell BK105.out 11).trans rfl
          have hcz53_12 : wc.cell? ⟨gb105, 12, none⟩ = some (.slice A0_12 l0_12.length c0_12) := (blk_cell BK105.out 12).trans rfl
          have hfz53_0 := blk_frozen BK105.out 0
          have hfz53_1 := blk_frozen BK105.out 1
          have hfz53_2 := blk_frozen BK105.out 2
          have hfz53_3 := blk_frozen BK105.out 3
          have hfz53_4 := blk_frozen BK105.out 4
          have hfz53_5 := blk_frozen BK105.out 5
          have hfz53_6 := blk_frozen BK105.out 6
          have hfz53_7 := blk_frozen BK105.out 7
          have hfz53_8 := blk_frozen BK105.out 8
          have hfz53_9 := blk_frozen BK105.out 9
          have hfz53_10 := blk_frozen BK105.out 10
          have hfz53_11 := blk_frozen BK105.out 11
          have hfz53_12 := blk_frozen BK105.out 12
          have hnb54 := NB106_107.out
          have hnc54 := NB107_106.out
          have hcz55_0 : wc.cell? ⟨gb106, 0, none⟩ = some (.int .i64 a1_0) := (blk_cell BK106.out 0).trans rfl
          have hcz55_1 : wc.cell? ⟨gb106, 1, none⟩ = some (.int .i64 a1_1) := (blk_cell BK106.out 1).trans rfl
          have hcz55_2 : wc.cell? ⟨gb106, 2, none⟩ = some (.int .i64 a1_2) := (blk_cell BK106.out 2).trans rfl
          have hcz55_3 : wc.cell? ⟨gb106, 3, none⟩ = some (.int .i64 a1_3) := (blk_cell BK106.out 3).trans rfl
          have hcz55_4 : wc.cell? ⟨gb106, 4, none⟩ = some (.int .i64 a1_4) := (blk_cell BK106.out 4).trans rfl
          have hcz55_5 : wc.cell? ⟨gb106, 5, none⟩ = some (.int .i64 a1_5) := (blk_cell BK106.out 5).trans rfl
          have hcz55_6 : wc.cell? ⟨gb106, 6, none⟩ = some (.int .u64 a1_6) := (blk_cell BK106.out 6).trans rfl
          have hcz55_7 : wc.cell? ⟨gb106, 7, none⟩ = some (.int .u64 a1_7) := (blk_cell BK106.out 7).trans rfl
          have hcz55_8 : wc.cell? ⟨gb106, 8, none⟩ = some (.int .i64 a1_8) := (blk_cell BK106.out 8).trans rfl
          have hcz55_9 : wc.cell? ⟨gb106, 9, none⟩ = some (.int .i64 a1_9) := (blk_cell BK106.out 9).trans rfl
          have hcz55_10 : wc.cell? ⟨gb106, 10, none⟩ = some (.bool a1_10) := (blk_cell BK106.out 10).trans rfl
          have hcz55_11 : wc.cell? ⟨gb106, 11, none⟩ = some (.int .u64 a1_11) := (blk_cell BK106.out 11).trans rfl
          have hcz55_12 : wc.cell? ⟨gb106, 12, none⟩ = some (.slice A1_12 l1_12.length c1_12) := (blk_cell BK106.out 12).trans rfl
          have hfz55_0 := blk_frozen BK106.out 0
          have hfz55_1 := blk_frozen BK106.out 1
          have hfz55_2 := blk_frozen BK106.out 2
          have hfz55_3 := blk_frozen BK106.out 3
          have hfz55_4 := blk_frozen BK106.out 4
          have hfz55_5 := blk_frozen BK106.out 5
          have hfz55_6 := blk_frozen BK106.out 6
          have hfz55_7 := blk_frozen BK106.out 7
          have hfz55_8 := blk_frozen BK106.out 8
          have hfz55_9 := blk_frozen BK106.out 9
          have hfz55_10 := blk_frozen BK106.out 10
          have hfz55_11 := blk_frozen BK106.out 11
          have hfz55_12 := blk_frozen BK106.out 12
          go_wp2_with (first | (go_at_call 20; (with_reducible refine (corrieref19_Before.calls a0_0 a0_1 a0_2 a0_3 a0_4 a0_5 a0_6 a0_7 a0_8 a0_9 a0_10 a0_11 _ _ l0_12 a1_0 a1_1 a1_2 a1_3 a1_4 a1_5 a1_6 a1_7 a1_8 a1_9 a1_10 a1_11 _ _ l1_12 t111 _ ?side1 ?side2 ?side3 ?side4 A50.out).mono ?_); (case side1 => repeat (first | exact (Kd.C_below HR0_12.out HB.out) | (with_reducible refine Kd.C_alloc ?_ _) | (with_reducible refine Kd.C_drewN ?_ _) | (with_reducible refine Kd.C_drew ?_))); (case side2 => exact HC0_12.out); (case side3 => repeat (first | exact (Kd.C_below HR1_12.out HB.out) | (with_reducible refine Kd.C_alloc ?_ _) | (with_reducible refine Kd.C_drewN ?_ _) | (with_reducible refine Kd.C_drew ?_))); (case side4 => exact HC1_12.out); rintro e w56 ⟨rfl, hb⟩; have n0_ := Aside0.mk (blk_below (g := gb105) (o := .cells #[.int .i64 a0_0, .int .i64 a0_1, .int .i64 a0_2, .int .i64 a0_3, .int .i64 a0_4, .int .i64 a0_5, .int .u64 a0_6, .int .u64 a0_7, .int .i64 a0_8, .int .i64 a0_9, .bool a0_10, .int .u64 a0_11, .slice A0_12 l0_12.length c0_12] 31 (0, 0)) (by (with_reducible repeat (first | refine blk_drewN ?_ _ | refine blk_drew ?_ | refine blk_alloc ?_ _)); exact BK105.out) hb); have n1_ := Aside0.mk (blk_below (g := gb106) (o := .cells #[.int .i64 a1_0, .int .i64 a1_1, .int .i64 a1_2, .int .i64 a1_3, .int .i64 a1_4, .int .i64 a1_5, .int .u64 a1_6, .int .u64 a1_7, .int .i64 a1_8, .int .i64 a1_9, .bool a1_10, .int .u64 a1_11, .slice A1_12 l1_12.length c1_12] 31 (0, 0)) (by (with_reducible repeat (first | refine blk_drewN ?_ _ | refine blk_drew ?_ | refine blk_alloc ?_ _)); exact BK106.out) hb); have n2_ := Aside0.mk (blk_below (g := gb107) (o := .cells #[.int .i64 a2_0, .int .i64 a2_1, .int .i64 a2_2, .int .i64 a2_3, .int .i64 a2_4, .int .i64 a2_5, .int .u64 a2_6, .int .u64 a2_7, .int .i64 a2_8, .int .i64 a2_9, .bool a2_10, .int .u64 a2_11, .slice A2_12 l2_12.length c2_12] 31 (0, 0)) (by (with_reducible repeat (first | refine blk_drewN ?_ _ | refine blk_drew ?_ | refine blk_alloc ?_ _)); exact BK107.out) hb); have n3_ := Aside0.mk (below_step (by repeat (first | (with_reducible first | exact HB.out | apply below_alloc | apply pw_below_drewN | apply below_drew1 | refine below_set ?_ GE105.out | refine below_set ?_ GE106.out | refine below_set ?_ GE107.out) | exact HB.out)) hb); clear BK105; clear BK106; clear BK107; clear HB; have BK105 := n0_; have BK106 := n1_; have BK107 := n2_; have HB := n3_; clear n0_ n1_ n2_ n3_; (try clear hb); (try clear hb2); (try clear hk); (try clear hi)))
          go_ret
          exact ⟨by first | rfl | (simp [errW_none, errW_some] <;> rfl) | (simp [*, errW_none, errW_some] <;> rfl), by repeat (first | (with_reducible first | exact HB.out | apply below_alloc | apply pw_below_drewN | apply below_drew1 | refine below_set ?_ GE105.out | refine below_set ?_ GE106.out | refine below_set ?_ GE107.out) | exact HB.out)⟩
        · replace c49 := Bool.eq_false_iff.mpr c49
          subst c49
          have H1 : (some false) = some r := by rw [if_neg (show ¬ (false = true) by decide)] at H; exact H
          clear H
          have H := H1
          clear H1
          obtain rfl := Option.some.inj H
          go_wp2
          go_ret
          exact ⟨by first | rfl | (simp [errW_none, errW_some] <;> rfl) | (simp [*, errW_none, errW_some] <;> rfl), by repeat (first | (with_reducible first | exact HB.out | apply below_alloc | apply pw_below_drewN | apply below_drew1 | refine below_set ?_ GE105.out | refine below_set ?_ GE106.out | refine below_set ?_ GE107.out) | exact HB.out)⟩
      · replace c48 := Bool.eq_false_iff.mpr c48
        subst c48
        have H1 : (if t108 = true then ((corrieref19_Before.f a0_0 a0_1 a0_2 a0_3 a0_4 a0_5 a0_6 a0_7 a0_8 a0_9 a0_10 a0_11 l0_12 a1_0 a1_1 a1_2 a1_3 a1_4 a1_5 a1_6 a1_7 a1_8 a1_9 a1_10 a1_11 l1_12).bind fun t112 => (if (t109 == t112) = true then (if t109 = true then ((history_Before.f a1_0 a1_1 a1_2 a1_3 a1_4 a1_5 a1_6 a1_7 a1_8 a1_9 a1_10 a1_11 l1_12 a0_0 a0_1 a0_2 a0_3 a0_4 a0_5 a0_6 a0_7 a0_8 a0_9 a0_10 a0_11 l0_12).bind fun t113 => (if t113 = true then (some false) else ((history_Before.f a0_0 a0_1 a0_2 a0_3 a0_4 a0_5 a0_6 a0_7 a0_8 a0_9 a0_10 a0_11 l0_12 a0_0 a0_1 a0_2 a0_3 a0_4 a0_5 a0_6 a0_7 a0_8 a0_9 a0_10 a0_11 l0_12).bind fun t114 => (if t114 = true then (some false) else (if t110 = true then ((history_Before.f a0_0 a0_1 a0_2 a0_3 a0_4 a0_5 a0_6 a0_7 a0_8 a0_9 a0_10 a0_11 l0_12 a2_0 a2_1 a2_2 a2_3 a2_4 a2_5 a2_6 a2_7 a2_8 a2_9 a2_10 a2_11 l2_12).bind fun t115 => (some t115)) else (some true)))))) else ((history_Before.f a0_0 a0_1 a0_2 a0_3 a0_4 a0_5 a0_6 a0_7 a0_8 a0_9 a0_10 a0_11 l0_12 a0_0 a0_1 a0_2 a0_3 a0_4 a0_5 a0_6 a0_7 a0_8 a0_9 a0_10 a0_11 l0_12).bind fun t116 => (if t116 = true then (some false) else (some true)))) else (some false))) else (some false)) = some r := by rw [if_neg (show ¬ (false = true) by decide)] at H; exact H
        clear H
        have H := H1
        clear H1
        by_cases c57 : t108 = true
        · subst c57
          have H1 : ((corrieref19_Before.f a0_0 a0_1 a0_2 a0_3 a0_4 a0_5 a0_6 a0_7 a0_8 a0_9 a0_10 a0_11 l0_12 a1_0 a1_1 a1_2 a1_3 a1_4 a1_5 a1_6 a1_7 a1_8 a1_9 a1_10 a1_11 l1_12).bind fun t112 => (if (t109 == t112) = true then (if t109 = true then ((history_Before.f a1_0 a1_1 a1_2 a1_3 a1_4 a1_5 a1_6 a1_7 a1_8 a1_9 a1_10 a1_11 l1_12 a0_0 a0_1 a0_2 a0_3 a0_4 a0_5 a0_6 a0_7 a0_8 a0_9 a0_10 a0_11 l0_12).bind fun t113 => (if t113 = true then (some false) else ((history_Before.f a0_0 a0_1 a0_2 a0_3 a0_4 a0_5 a0_6 a0_7 a0_8 a0_9 a0_10 a0_11 l0_12 a0_0 a0_1 a0_2 a0_3 a0_4 a0_5 a0_6 a0_7 a0_8 a0_9 a0_10 a0_11 l0_12).bind fun t114 => (if t114 = true then (some false) else (if t110 = true then ((history_Before.f a0_0 a0_1 a0_2 a0_3 a0_4 a0_5 a0_6 a0_7 a0_8 a0_9 a0_10 a0_11 l0_12 a2_0 a2_1 a2_2 a2_3 a2_4 a2_5 a2_6 a2_7 a2_8 a2_9 a2_10 a2_11 l2_12).bind fun t115 => (some t115)) else (some true)))))) else ((history_Before.f a0_0 a0_1 a0_2 a0_3 a0_4 a0_5 a0_6 a0_7 a0_8 a0_9 a0_10 a0_11 l0_12 a0_0 a0_1 a0_2 a0_3 a0_4 a0_5 a0_6 a0_7 a0_8 a0_9 a0_10 a0_11 l0_12).bind fun t116 => (if t116 = true then (some false) else (some true)))) else (some false))) = some r := by rw [if_pos rfl] at H; exact H
          clear H
          have H := H1
          clear H1
          replace H := Option.bind_eq_some_iff.mp H
          obtain ⟨t112, A580, H⟩ := H
          replace H : (if (t109 == t112) = true then (if t109 = true then ((history_Before.f a1_0 a1_1 a1_2 a1_3 a1_4 a1_5 a1_6 a1_7 a1_8 a1_9 a1_10 a1_11 l1_12 a0_0 a0_1 a0_2 a0_3 a0_4 a0_5 a0_6 a0_7 a0_8 a0_9 a0_10 a0_11 l0_12).bind fun t113 => (if t113 = true then (some false) else ((history_Before.f a0_0 a0_1 a0_2 a0_3 a0_4 a0_5 a0_6 a0_7 a0_8 a0_9 a0_10 a0_11 l0_12 a0_0 a0_1 a0_2 a0_3 a0_4 a0_5 a0_6 a0_7 a0_8 a0_9 a0_10 a0_11 l0_12).bind fun t114 => (if t114 = true then (some false) else (if t110 = true then ((history_Before.f a0_0 a0_1 a0_2 a0_3 a0_4 a0_5 a0_6 a0_7 a0_8 a0_9 a0_10 a0_11 l0_12 a2_0 a2_1 a2_2 a2_3 a2_4 a2_5 a2_6 a2_7 a2_8 a2_9 a2_10 a2_11 l2_12).bind fun t115 => (some t115)) else (some true)))))) else ((history_Before.f a0_0 a0_1 a0_2 a0_3 a0_4 a0_5 a0_6 a0_7 a0_8 a0_9 a0_10 a0_11 l0_12 a0_0 a0_1 a0_2 a0_3 a0_4 a0_5 a0_6 a0_7 a0_8 a0_9 a0_10 a0_11 l0_12).bind fun t116 => (if t116 = true then (some false) else (some true)))) else (some false)) = some r := H
          have A58 := Aside0.mk A580
          clear A580
          by_cases c59 : (t109 == t112) = true
          · rw [if_pos c59] at H
            have c59b0 : (t109 == t112) = true := c59
            (try (have c59b1 : decide (t109 = t112) = true := by simpa using c59))
            (try (have c59b2 : (t109 == t112) = true := by simpa using c59))
            clear c59
            by_cases c60 : t109 = true
            · subst c60
              have H1 : ((history_Before.f a1_0 a1_1 a1_2 a1_3 a1_4 a1_5 a1_6 a1_7 a1_8 a1_9 a1_10 a1_11 l1_12 a0_0 a0_1 a0_2 a0_3 a0_4 a0_5 a0_6 a0_7 a0_8 a0_9 a0_10 a0_11 l0_12).bind fun t113 => (if t113 = true then (some false) else ((history_Before.f a0_0 a0_1 a0_2 a0_3 a0_4 a0_5 a0_6 a0_7 a0_8 a0_9 a0_10 a0_11 l0_12 a0_0 a0_1 a0_2 a0_3 a0_4 a0_5 a0_6 a0_7 a0_8 a0_9 a0_10 a0_11 l0_12).bind fun t114 => (if t114 = true then (some false) else (if t110 = true then ((history_Before.f a0_0 a0_1 a0_2 a0_3 a0_4 a0_5 a0_6 a0_7 a0_8 a0_9 a0_10 a0_11 l0_12 a2_0 a2_1 a2_2 a2_3 a2_4 a2_5 a2_6 a2_7 a2_8 a2_9 a2_10 a2_11 l2_12).bind fun t115 => (some t115)) else (some true)))))) = some r := by rw [if_pos rfl] at H; exact H
              clear H
              have H := H1
              clear H1
              replace H := Option.bind_eq_some_iff.mp H
              obtain ⟨t113, A610, H⟩ := H
              replace H : (if t113 = true then (some false) else ((history_Before.f a0_0 a0_1 a0_2 a0_3 a0_4 a0_5 a0_6 a0_7 a0_8 a0_9 a0_10 a0_11 l0_12 a0_0 a0_1 a0_2 a0_3 a0_4 a0_5 a0_6 a0_7 a0_8 a0_9 a0_10 a0_11 l0_12).bind fun t114 => (if t114 = true then (some false) else (if t110 = true then ((history_Before.f a0_0 a0_1 a0_2 a0_3 a0_4 a0_5 a0_6 a0_7 a0_8 a0_9 a0_10 a0_11 l0_12 a2_0 a2_1 a2_2 a2_3 a2_4 a2_5 a2_6 a2_7 a2_8 a2_9 a2_10 a2_11 l2_12).bind fun t115 => (some t115)) else (some true))))) = some r := H
              have A61 := Aside0.mk A610
              clear A610
              by_cases c62 : t113 = true
              · subst c62
                have H1 : (some false) = some r := by rw [if_pos rfl] at H; exact H
                clear H
                have H := H1
                clear H1
                obtain rfl := Option.some.inj H
                have hnb63 := NB105_106.out
                have hnc63 := NB106_105.out
                have hnb64 := NB105_107.out
                have hnc64 := NB107_105.out
                have hcz65_0 : wc.cell? ⟨gb105, 0, none⟩ = some (.int .i64 a0_0) := (blk_cell BK105.out 0).trans rfl
                have hcz65_1 : wc.cell? ⟨gb105, 1, none⟩ = some (.int .i64 a0_1) := (blk_cell BK105.out 1).trans rfl
                have hcz65_2 : wc.cell? ⟨gb105, 2, none⟩ = some (.int .i64 a0_2) := (blk_cell BK105.out 2).trans rfl
                have hcz65_3 : wc.cell? ⟨gb105, 3, none⟩ = some (.int .i64 a0_3) := (blk_cell BK105.out 3).trans rfl
                have hcz65_4 : wc.cell? ⟨gb105, 4, none⟩ = some (.int .i64 a0_4) := (blk_cell BK105.out 4).trans rfl
                have hcz65_5 : wc.cell? ⟨gb105, 5, none⟩ = some (.int .i64 a0_5) := (blk_cell BK105.out 5).trans rfl
                have hcz65_6 : wc.cell? ⟨gb105, 6, none⟩ = some (.int .u64 a0_6) := (blk_cell BK105.out 6).trans rfl
                have hcz65_7 : wc.cell? ⟨gb105, 7, none⟩ = some (.int .u64 a0_7) := (blk_cell BK105.out 7).trans rfl
                have hcz65_8 : wc.cell? ⟨gb105, 8, none⟩ = some (.int .i64 a0_8) := (blk_cell BK105.out 8).trans rfl
                have hcz65_9 : wc.cell? ⟨gb105, 9, none⟩ = some (.int .i64 a0_9) := (blk_cell BK105.out 9).trans rfl
                have hcz65_10 : wc.cell? ⟨gb105, 10, none⟩ = some (.bool a0_10) := (blk_cell BK105.out 10).trans rfl
                have hcz65_11 : wc.cell? ⟨gb105, 11, none⟩ = some (.int .u64 a0_11) := (blk_cell BK105.out 11).trans rfl
                have hcz65_12 : wc.cell? ⟨gb105, 12, none⟩ = some (.slice A0_12 l0_12.length c0_12) := (blk_cell BK105.out 12).trans rfl
                have hfz65_0 := blk_frozen BK105.out 0
                have hfz65_1 := blk_frozen BK105.out 1
                have hfz65_2 := blk_frozen BK105.out 2
                have hfz65_3 := blk_frozen BK105.out 3
                have hfz65_4 := blk_frozen BK105.out 4
                have hfz65_5 := blk_frozen BK105.out 5
                have hfz65_6 := blk_frozen BK105.out 6
                have hfz65_7 := blk_frozen BK105.out 7
                have hfz65_8 := blk_frozen BK105.out 8
                have hfz65_9 := blk_frozen BK105.out 9
                have hfz65_10 := blk_frozen BK105.out 10
                have hfz65_11 := blk_frozen BK105.out 11
                have hfz65_12 := blk_frozen BK105.out 12
                have hnb66 := NB106_107.out
                have hnc66 := NB107_106.out
                have hcz67_0 : wc.cell? ⟨gb106, 0, none⟩ = some (.int .i64 a1_0) := (blk_cell BK106.out 0).trans rfl
                have hcz67_1 : wc.cell? ⟨gb106, 1, none⟩ = some (.int .i64 a1_1) := (blk_cell BK106.out 1).trans rfl
                have hcz67_2 : wc.cell? ⟨gb106, 2, none⟩ = some (.int .i64 a1_2) := (blk_cell BK106.out 2).trans rfl
                have hcz67_3 : wc.cell? ⟨gb106, 3, none⟩ = some (.int .i64 a1_3) := (blk_cell BK106.out 3).trans rfl
                have hcz67_4 : wc.cell? ⟨gb106, 4, none⟩ = some (.int .i64 a1_4) := (blk_cell BK106.out 4).trans rfl
                have hcz67_5 : wc.cell? ⟨gb106, 5, none⟩ = some (.int .i64 a1_5) := (blk_cell BK106.out 5).trans rfl
                have hcz67_6 : wc.cell? ⟨gb106, 6, none⟩ = some (.int .u64 a1_6) := (blk_cell BK106.out 6).trans rfl
                have hcz67_7 : wc.cell? ⟨gb106, 7, none⟩ = some (.int .u64 a1_7) := (blk_cell BK106.out 7).trans rfl
                have hcz67_8 : wc.cell? ⟨gb106, 8, none⟩ = some (.int .i64 a1_8) := (blk_cell BK106.out 8).trans rfl
                have hcz67_9 : wc.cell? ⟨gb106, 9, none⟩ = some (.int .i64 a1_9) := (blk_cell BK106.out 9).trans rfl
                have hcz67_10 : wc.cell? ⟨gb106, 10, none⟩ = some (.bool a1_10) := (blk_cell BK106.out 10).trans rfl
                have hcz67_11 : wc.cell? ⟨gb106, 11, none⟩ = some (.int .u64 a1_11) := (blk_cell BK106.out 11).trans rfl
                have hcz67_12 : wc.cell? ⟨gb106, 12, none⟩ = some (.slice A1_12 l1_12.length c1_12) := (blk_cell BK106.out 12).trans rfl
                have hfz67_0 := blk_frozen BK106.out 0
                have hfz67_1 := blk_frozen BK106.out 1
                have hfz67_2 := blk_frozen BK106.out 2
                have hfz67_3 := blk_frozen BK106.out 3
                have hfz67_4 := blk_frozen BK106.out 4
                have hfz67_5 := blk_frozen BK106.out 5
                have hfz67_6 := blk_frozen BK106.out 6
                have hfz67_7 := blk_frozen BK106.out 7
                have hfz67_8 := blk_frozen BK106.out 8
                have hfz67_9 := blk_frozen BK106.out 9
                have hfz67_10 := blk_frozen BK106.out 10
                have hfz67_11 := blk_frozen BK106.out 11
                have hfz67_12 := blk_frozen BK106.out 12
                go_wp2_with (first | (go_at_call 20; (with_reducible refine (corrieref19_Before.calls a0_0 a0_1 a0_2 a0_3 a0_4 a0_5 a0_6 a0_7 a0_8 a0_9 a0_10 a0_11 _ _ l0_12 a1_0 a1_1 a1_2 a1_3 a1_4 a1_5 a1_6 a1_7 a1_8 a1_9 a1_10 a1_11 _ _ l1_12 t112 _ ?side1 ?side2 ?side3 ?side4 A58.out).mono ?_); (case side1 => repeat (first | exact (Kd.C_below HR0_12.out HB.out) | (with_reducible refine Kd.C_alloc ?_ _) | (with_reducible refine Kd.C_drewN ?_ _) | (with_reducible refine Kd.C_drew ?_))); (case side2 => exact HC0_12.out); (case side3 => repeat (first | exact (Kd.C_below HR1_12.out HB.out) | (with_reducible refine Kd.C_alloc ?_ _) | (with_reducible refine Kd.C_drewN ?_ _) | (with_reducible refine Kd.C_drew ?_))); (case side4 => exact HC1_12.out); rintro e w68 ⟨rfl, hb⟩; have n0_ := Aside0.mk (blk_below (g := gb105) (o := .cells #[.int .i64 a0_0, .int .i64 a0_1, .int .i64 a0_2, .int .i64 a0_3, .int .i64 a0_4, .int .i64 a0_5, .int .u64 a0_6, .int .u64 a0_7, .int .i64 a0_8, .int .i64 a0_9, .bool a0_10, .int .u64 a0_11, .slice A0_12 l0_12.length c0_12] 31 (0, 0)) (by (with_reducible repeat (first | refine blk_drewN ?_ _ | refine blk_drew ?_ | refine blk_alloc ?_ _)); exact BK105.out) hb); have n1_ := Aside0.mk (blk_below (g := gb106) (o := .cells #[.int .i64 a1_0, .int .i64 a1_1, .int .i64 a1_2, .int .i64 a1_3, .int .i64 a1_4, .int .i64 a1_5, .int .u64 a1_6, .int .u64 a1_7, .int .i64 a1_8, .int .i64 a1_9, .bool a1_10, .int .u64 a1_11, .slice A1_12 l1_12.length c1_12] 31 (0, 0)) (by (with_reducible repeat (first | refine blk_drewN ?_ _ | refine blk_drew ?_ | refine blk_alloc ?_ _)); exact BK106.out) hb); have n2_ := Aside0.mk (blk_below (g := gb107) (o := .cells #[.int .i64 a2_0, .int .i64 a2_1, .int .i64 a2_2, .int .i64 a2_3, .int .i64 a2_4, .int .i64 a2_5, .int .u64 a2_6, .int .u64 a2_7, .int .i64 a2_8, .int .i64 a2_9, .bool a2_10, .int .u64 a2_11, .slice A2_12 l2_12.length c2_12] 31 (0, 0)) (by (with_reducible repeat (first | refine blk_drewN ?_ _ | refine blk_drew ?_ | refine blk_alloc ?_ _)); exact BK107.out) hb); have n3_ := Aside0.mk (below_step (by repeat (first | (with_reducible first | exact HB.out | apply below_alloc | apply pw_below_drewN | apply below_drew1 | refine below_set ?_ GE105.out | refine below_set ?_ GE106.out | refine below_set ?_ GE107.out) | exact HB.out)) hb); clear BK105; clear BK106; clear BK107; clear HB; have BK105 := n0_; have BK106 := n1_; have BK107 := n2_; have HB := n3_; clear n0_ n1_ n2_ n3_; (try clear hb); (try clear hb2); (try clear hk); (try clear hi); have hcz69_0 : w68.cell? ⟨gb106, 0, none⟩ = some (.int .i64 a1_0) := (blk_cell BK106.out 0).trans rfl; have hcz69_1 : w68.cell? ⟨gb106, 1, none⟩ = some (.int .i64 a1_1) := (blk_cell BK106.out 1).trans rfl; have hcz69_2 : w68.cell? ⟨gb106, 2, none⟩ = some (.int .i64 a1_2) := (blk_cell BK106.out 2).trans rfl; have hcz69_3 : w68.cell? ⟨gb106, 3, none⟩ = some (.int .i64 a1_3) := (blk_cell BK106.out 3).trans rfl; have hcz69_4 : w68.cell? ⟨gb106, 4, none⟩ = some (.int .i64 a1_4) := (blk_cell BK106.out 4).trans rfl; have hcz69_5 : w68.cell? ⟨gb106, 5, none⟩ = some (.int .i64 a1_5) := (blk_cell BK106.out 5).trans rfl; have hcz69_6 : w68.cell? ⟨gb106, 6, none⟩ = some (.int .u64 a1_6) := (blk_cell BK106.out 6).trans rfl; have hcz69_7 : w68.cell? ⟨gb106, 7, none⟩ = some (.int .u64 a1_7) := (blk_cell BK106.out 7).trans rfl; have hcz69_8 : w68.cell? ⟨gb106, 8, none⟩ = some (.int .i64 a1_8) := (blk_cell BK106.out 8).trans rfl; have hcz69_9 : w68.cell? ⟨gb106, 9, none⟩ = some (.int .i64 a1_9) := (blk_cell BK106.out 9).trans rfl; have hcz69_10 : w68.cell? ⟨gb106, 10, none⟩ = some (.bool a1_10) := (blk_cell BK106.out 10).trans rfl; have hcz69_11 : w68.cell? ⟨gb106, 11, none⟩ = some (.int .u64 a1_11) := (blk_cell BK106.out 11).trans rfl; have hcz69_12 : w68.cell? ⟨gb106, 12, none⟩ = some (.slice A1_12 l1_12.length c1_12) := (blk_cell BK106.out 12).trans rfl; have hfz69_0 := blk_frozen BK106.out 0; have hfz69_1 := blk_frozen BK106.out 1; have hfz69_2 := blk_frozen BK106.out 2; have hfz69_3 := blk_frozen BK106.out 3; have hfz69_4 := blk_frozen BK106.out 4; have hfz69_5 := blk_frozen BK106.out 5; have hfz69_6 := blk_frozen BK106.out 6; have hfz69_7 := blk_frozen BK106.out 7; have hfz69_8 := blk_frozen BK106.out 8; have hfz69_9 := blk_frozen BK106.out 9; have hfz69_10 := blk_frozen BK106.out 10; have hfz69_11 := blk_frozen BK106.out 11; have hfz69_12 := blk_frozen BK106.out 12; have hcz70_0 : w68.cell? ⟨gb105, 0, none⟩ = some (.int .i64 a0_0) := (blk_cell BK105.out 0).trans rfl; have hcz70_1 : w68.cell? ⟨gb105, 1, none⟩ = some (.int .i64 a0_1) := (blk_cell BK105.out 1).trans rfl; have hcz70_2 : w68.cell? ⟨gb105, 2, none⟩ = some (.int .i64 a0_2) := (blk_cell BK105.out 2).trans rfl; have hcz70_3 : w68.cell? ⟨gb105, 3, none⟩ = some (.int .i64 a0_3) := (blk_cell BK105.out 3).trans rfl; have hcz70_4 : w68.cell? ⟨gb105, 4, none⟩ = some (.int .i64 a0_4) := (blk_cell BK105.out 4).trans rfl; have hcz70_5 : w68.cell? ⟨gb105, 5, none⟩ = some (.int .i64 a0_5) := (blk_cell BK105.out 5).trans rfl; have hcz70_6 : w68.cell? ⟨gb105, 6, none⟩ = some (.int .u64 a0_6) := (blk_cell BK105.out 6).trans rfl; have hcz70_7 : w68.cell? ⟨gb105, 7, none⟩ = some (.int .u64 a0_7) := (blk_cell BK105.out 7).trans rfl; have hcz70_8 : w68.cell? ⟨gb105, 8, none⟩ = some (.int .i64 a0_8) := (blk_cell BK105.out 8).trans rfl; have hcz70_9 : w68.cell? ⟨gb105, 9, none⟩ = some (.int .i64 a0_9) := (blk_cell BK105.out 9).trans rfl; have hcz70_10 : w68.cell? ⟨gb105, 10, none⟩ = some (.bool a0_10) := (blk_cell BK105.out 10).trans rfl; have hcz70_11 : w68.cell? ⟨gb105, 11, none⟩ = some (.int .u64 a0_11) := (blk_cell BK105.out 11).trans rfl; have hcz70_12 : w68.cell? ⟨gb105, 12, none⟩ = some (.slice A0_12 l0_12.length c0_12) := (blk_cell BK105.out 12).trans rfl; have hfz70_0 := blk_frozen BK105.out 0; have hfz70_1 := blk_frozen BK105.out 1; have hfz70_2 := blk_frozen BK105.out 2; have hfz70_3 := blk_frozen BK105.out 3; have hfz70_4 := blk_frozen BK105.out 4; have hfz70_5 := blk_frozen BK105.out 5; have hfz70_6 := blk_frozen BK105.out 6; have hfz70_7 := blk_frozen BK105.out 7; have hfz70_8 := blk_frozen BK105.out 8; have hfz70_9 := blk_frozen BK105.out 9; have hfz70_10 := blk_frozen BK105.out 10; have hfz70_11 := blk_frozen BK105.out 11; have hfz70_12 := blk_frozen BK105.out 12) | (go_at_call 19; (with_reducible refine (history_Before.calls a1_0 a1_1 a1_2 a1_3 a1_4 a1_5 a1_6 a1_7 a1_8 a1_9 a1_10 a1_11 _ _ l1_12 a0_0 a0_1 a0_2 a0_3 a0_4 a0_5 a0_6 a0_7 a0_8 a0_9 a0_10 a0_11 _ _ l0_12 true _ ?side1 ?side2 ?side3 ?side4 A61.out).mono ?_); (case side1 => repeat (first | exact (Kd.C_below HR1_12.out HB.out) | (with_reducible refine Kd.C_alloc ?_ _) | (with_reducible refine Kd.C_drewN ?_ _) | (with_reducible refine Kd.C_drew ?_))); (case side2 => exact HC1_12.out); (case side3 => repeat (first | exact (Kd.C_below HR0_12.out HB.out) | (with_reducible refine Kd.C_alloc ?_ _) | (with_reducible refine Kd.C_drewN ?_ _) | (with_reducible refine Kd.C_drew ?_))); (case side4 => exact HC0_12.out); rintro e w71 ⟨rfl, hb⟩; have n0_ := Aside0.mk (blk_below (g := gb105) (o := .cells #[.int .i64 a0_0, .int .i64 a0_1, .int .i64 a0_2, .int .i64 a0_3, .int .i64 a0_4, .int .i64 a0_5, .int .u64 a0_6, .int .u64 a0_7, .int .i64 a0_8, .int .i64 a0_9, .bool a0_10, .int .u64 a0_11, .slice A0_12 l0_12.length c0_12] 31 (0, 0)) (by (with_reducible repeat (first | refine blk_drewN ?_ _ | refine blk_drew ?_ | refine blk_alloc ?_ _)); exact BK105.out) hb); have n1_ := Aside0.mk (blk_below (g := gb106) (o := .cells #[.int .i64 a1_0, .int .i64 a1_1, .int .i64 a1_2, .int .i64 a1_3, .int .i64 a1_4, .int .i64 a1_5, .int .u64 a1_6, .int .u64 a1_7, .int .i64 a1_8, .int .i64 a1_9, .bool a1_10, .int .u64 a1_11, .slice A1_12 l1_12.length c1_12] 31 (0, 0)) (by (with_reducible repeat (first | refine blk_drewN ?_ _ | refine blk_drew ?_ | refine blk_alloc ?_ _)); exact BK106.out) hb); have n2_ := Aside0.mk (blk_below (g := gb107) (o := .cells #[.int .i64 a2_0, .int .i64 a2_1, .int .i64 a2_2, .int .i64 a2_3, .int .i64 a2_4, .int .i64 a2_5, .int .u64 a2_6, .int .u64 a2_7, .int .i64 a2_8, .int .i64 a2_9, .bool a2_10, .int .u64 a2_11, .slice A2_12 l2_12.length c2_12] 31 (0, 0)) (by (with_reducible repeat (first | refine blk_drewN ?_ _ | refine blk_drew ?_ | refine blk_alloc ?_ _)); exact BK107.out) hb); have n3_ := Aside0.mk (below_step (by repeat (first | (with_reducible first | exact HB.out | apply below_alloc | apply pw_below_drewN | apply below_drew1 | refine below_set ?_ GE105.out | refine below_set ?_ GE106.out | refine below_set ?_ GE107.out) | exact HB.out)) hb); clear BK105; clear BK106; clear BK107; clear HB; have BK105 := n0_; have BK106 := n1_; have BK107 := n2_; have HB := n3_; clear n0_ n1_ n2_ n3_; (try clear hb); (try clear hb2); (try clear hk); (try clear hi)))
                go_ret
                exact ⟨by first | rfl | (simp [errW_none, errW_some] <;> rfl) | (simp [*, errW_none, errW_some] <;> rfl), by repeat (first | (with_reducible first | exact HB.out | apply below_alloc | apply pw_below_drewN | apply below_drew1 | refine below_set ?_ GE105.out | refine below_set ?_ GE106.out | refine below_set ?_ GE107.out) | exact HB.out)⟩
              · replace c62 := Bool.eq_false_iff.mpr c62
                subst c62
                have H1 : ((history_Before.f a0_0 a0_1 a0_2 a0_3 a0_4 a0_5 a0_6 a0_7 a0_8 a0_9 a0_10 a0_11 l0_12 a0_0 a0_1 a0_2 a0_3 a0_4 a0_5 a0_6 a0_7 a0_8 a0_9 a0_10 a0_11 l0_12).bind fun t114 => (if t114 = true then (some false) else (if t110 = true then ((history_Before.f a0_0 a0_1 a0_2 a0_3 a0_4 a0_5 a0_6 a0_7 a0_8 a0_9 a0_10 a0_11 l0_12 a2_0 a2_1 a2_2 a2_3 a2_4 a2_5 a2_6 a2_7 a2_8 a2_9 a2_10 a2_11 l2_12).bind fun t115 => (some t115)) else (some true)))) = some r := by rw [if_neg (show ¬ (false = true) by decide)] at H; exact H
                clear H
                have H := H1
                clear H1
                replace H := Option.bind_eq_some_iff.mp H
                obtain ⟨t114, A720, H⟩ := H
                replace H : (if t114 = true then (some false) else (if t110 = true then ((history_Before.f a0_0 a0_1 a0_2 a0_3 a0_4 a0_5 a0_6 a0_7 a0_8 a0_9 a0_10 a0_11 l0_12 a2_0 a2_1 a2_2 a2_3 a2_4 a2_5 a2_6 a2_7 a2_8 a2_9 a2_10 a2_11 l2_12).bind fun t115 => (some t115)) else (some true))) = some r := H
                have A72 := Aside0.mk A720
                clear A720
                by_cases c73 : t114 = true
                · subst c73
                  have H1 : (some false) = some r := by rw [if_pos rfl] at H; exact H
                  clear H
                  have H := H1
                  clear H1
                  obtain rfl := Option.some.inj H
                  have hnb74 := NB105_106.out
                  have hnc74 := NB106_105.out
                  have hnb75 := NB105_107.out
                  have hnc75 := NB107_105.out
                  have hcz76_0 : wc.cell? ⟨gb105, 0, none⟩ = some (.int .i64 a0_0) := (blk_cell BK105.out 0).trans rfl
                  have hcz76_1 : wc.cell? ⟨gb105, 1, none⟩ = some (.int .i64 a0_1) := (blk_cell BK105.out 1).trans rfl
                  have hcz76_2 : wc.cell? ⟨gb105, 2, none⟩ = some (.int .i64 a0_2) := (blk_cell BK105.out 2).trans rfl
                  have hcz76_3 : wc.cell? ⟨gb105, 3, none⟩ = some (.int .i64 a0_3) := (blk_cell BK105.out 3).trans rfl
                  have hcz76_4 : wc.cell? ⟨gb105, 4, none⟩ = some (.int .i64 a0_4) := (blk_cell BK105.out 4).trans rfl
                  have hcz76_5 : wc.cell? ⟨gb105, 5, none⟩ = some (.int .i64 a0_5) := (blk_cell BK105.out 5).trans rfl
                  have hcz76_6 : wc.cell? ⟨gb105, 6, none⟩ = some (.int .u64 a0_6) := (blk_cell BK105.out 6).trans rfl
                  have hcz76_7 : wc.cell? ⟨gb105, 7, none⟩ = some (.int .u64 a0_7) := (blk_cell BK105.out 7).trans rfl
                  have hcz76_8 : wc.cell? ⟨gb105, 8, none⟩ = some (.int .i64 a0_8) := (blk_cell BK105.out 8).trans rfl
                  have hcz76_9 : wc.cell? ⟨gb105, 9, none⟩ = some (.int .i64 a0_9) := (blk_cell BK105.out 9).trans rfl
                  have hcz76_10 : wc.cell? ⟨gb105, 10, none⟩ = some (.bool a0_10) := (blk_cell BK105.out 10).trans rfl
                  have hcz76_11 : wc.cell? ⟨gb105, 11, none⟩ = some (.int .u64 a0_11) := (blk_cell BK105.out 11).trans rfl
                  have hcz76_12 : wc.cell? ⟨gb105, 12, none⟩ = some (.slice A0_12 l0_12.length c0_12) := (blk_cell BK105.out 12).trans rfl
                  have hfz76_0 := blk_frozen BK105.out 0
                  have hfz76_1 := blk_frozen BK105.out 1
                  have hfz76_2 := blk_frozen BK105.out 2
                  have hfz76_3 := blk_frozen BK105.out 3
                  have hfz76_4 := blk_frozen BK105.out 4
                  have hfz76_5 := blk_frozen BK105.out 5
                  have hfz76_6 := blk_frozen BK105.out 6
                  have hfz76_7 := blk_frozen BK105.out 7
                  have hfz76_8 := blk_frozen BK105.out 8
                  have hfz76_9 := blk_frozen BK105.out 9
                  have hfz76_10 := blk_frozen BK105.out 10
                  have hfz76_11 := blk_frozen BK105.out 11
                  have hfz76_12 := blk_frozen BK105.out 12
                  have hnb77 := NB106_107.out
                  have hnc77 := NB107_106.out
                  have hcz78_0 : wc.cell? ⟨gb106, 0, none⟩ = some (.int .i64 a1_0) := (blk_cell BK106.out 0).trans rfl
                  have hcz78_1 : wc.cell? ⟨gb106, 1, none⟩ = some (.int .i64 a1_1) := (blk_cell BK106.out 1).trans rfl
                  have hcz78_2 : wc.cell? ⟨gb106, 2, none⟩ = some (.int .i64 a1_2) := (blk_cell BK106.out 2).trans rfl
                  have hcz78_3 : wc.cell? ⟨gb106, 3, none⟩ = some (.int .i64 a1_3) := (blk_cell BK106.out 3).trans rfl
                  have hcz78_4 : wc.cell? ⟨gb106, 4, none⟩ = some (.int .i64 a1_4) := (blk_cell BK106.out 4).trans rfl
                  have hcz78_5 : wc.cell? ⟨gb106, 5, none⟩ = some (.int .i64 a1_5) := (blk_cell BK106.out 5).trans rfl
                  have hcz78_6 : wc.cell? ⟨gb106, 6, none⟩ = some (.int .u64 a1_6) := (blk_cell BK106.out 6).trans rfl
                  have hcz78_7 : wc.cell? ⟨gb106, 7, none⟩ = some (.int .u64 a1_7) := (blk_cell BK106.out 7).trans rfl
                  have hcz78_8 : wc.cell? ⟨gb106, 8, none⟩ = some (.int .i64 a1_8) := (blk_cell BK106.out 8).trans rfl
                  have hcz78_9 : wc.cell? ⟨gb106, 9, none⟩ = some (.int .i64 a1_9) := (blk_cell BK106.out 9).trans rfl
                  have hcz78_10 : wc.cell? ⟨gb106, 10, none⟩ = some (.bool a1_10) := (blk_cell BK106.out 10).trans rfl
                  have hcz78_11 : wc.cell? ⟨gb106, 11, none⟩ = some (.int .u64 a1_11) := (blk_cell BK106.out 11).trans rfl
                  have hcz78_12 : wc.cell? ⟨gb106, 12, none⟩ = some (.slice A1_12 l1_12.length c1_12) := (blk_cell BK106.out 12).trans rfl
                  have hfz78_0 := blk_frozen BK106.out 0
                  have hfz78_1 := blk_frozen BK106.out 1
                  have hfz78_2 := blk_frozen BK106.out 2
                  have hfz78_3 := blk_frozen BK106.out 3
                  have hfz78_4 := blk_frozen BK106.out 4
                  have hfz78_5 := blk_frozen BK106.out 5
                  have hfz78_6 := blk_frozen BK106.out 6
                  have hfz78_7 := blk_frozen BK106.out 7
                  have hfz78_8 := blk_frozen BK106.out 8
                  have hfz78_9 := blk_frozen BK106.out 9
                  have hfz78_10 := blk_frozen BK106.out 10
                  have hfz78_11 := blk_frozen BK106.out 11
                  have hfz78_12 := blk_frozen BK106.out 12
                  go_wp2_with (first | (go_at_call 20; (with_reducible refine (corrieref19_Before.calls a0_0 a0_1 a0_2 a0_3 a0_4 a0_5 a0_6 a0_7 a0_8 a0_9 a0_10 a0_11 _ _ l0_12 a1_0 a1_1 a1_2 a1_3 a1_4 a1_5 a1_6 a1_7 a1_8 a1_9 a1_10 a1_11 _ _ l1_12 t112 _ ?side1 ?side2 ?side3 ?side4 A58.out).mono ?_); (case side1 => repeat (first | exact (Kd.C_below HR0_12.out HB.out) | (with_reducible refine Kd.C_alloc ?_ _) | (with_reducible refine Kd.C_drewN ?_ _) | (with_reducible refine Kd.C_drew ?_))); (case side2 => exact HC0_12.out); (case side3 => repeat (first | exact (Kd.C_below HR1_12.out HB.out) | (with_reducible refine Kd.C_alloc ?_ _) | (with_reducible refine Kd.C_drewN ?_ _) | (with_reducible refine Kd.C_drew ?_))); (case side4 => exact HC1_12.out); rintro e w79 ⟨rfl, hb⟩; have n0_ := Aside0.mk (blk_below (g := gb105) (o := .cells #[.int .i64 a0_0, .int .i64 a0_1, .int .i64 a0_2, .int .i64 a0_3, .int .i64 a0_4, .int .i64 a0_5, .int .u64 a0_6, .int .u64 a0_7, .int .i64 a0_8, .int .i64 a0_9, .bool a0_10, .int .u64 a0_11, .slice A0_12 l0_12.length c0_12] 31 (0, 0)) (by (with_reducible repeat (first | refine blk_drewN ?_ _ | refine blk_drew ?_ | refine blk_alloc ?_ _)); exact BK105.out) hb); have n1_ := Aside0.mk (blk_below (g := gb106) (o := .cells #[.int .i64 a1_0, .int .i64 a1_1, .int .i64 a1_2, .int .i64 a1_3, .int .i64 a1_4, .int .i64 a1_5, .int .u64 a1_6, .int .u64 a1_7, .int .i64 a1_8, .int .i64 a1_9, .bool a1_10, .int .u64 a1_11, .slice A1_12 l1_12.length c1_12] 31 (0, 0)) (by (with_reducible repeat (first | refine blk_drewN ?_ _ | refine blk_drew ?_ | refine blk_alloc ?_ _)); exact BK106.out) hb); have n2_ := Aside0.mk (blk_below (g := gb107) (o := .cells #[.int .i64 a2_0, .int .i64 a2_1, .int .i64 a2_2, .int .i64 a2_3, .int .i64 a2_4, .int .i64 a2_5, .int .u64 a2_6, .int .u64 a2_7, .int .i64 a2_8, .int .i64 a2_9, .bool a2_10, .int .u64 a2_11, .slice A2_12 l2_12.length c2_12] 31 (0, 0)) (by (with_reducible repeat (first | refine blk_drewN ?_ _ | refine blk_drew ?_ | refine blk_alloc ?_ _)); exact BK107.out) hb); have n3_ := Aside0.mk (below_step (by repeat (first | (with_reducible first | exact HB.out | apply below_alloc | apply pw_below_drewN | apply below_drew1 | refine below_set ?_ GE105.out | refine below_set ?_ GE106.out | refine below_set ?_ GE107.out) | exact HB.out)) hb); clear BK105; clear BK106; clear BK107; clear HB; have BK105 := n0_; have BK106 := n1_; have BK107 := n2_; have HB := n3_; clear n0_ n1_ n2_ n3_; (try clear hb); (try clear hb2); (try clear hk); (try clear hi); have hcz80_0 : w79.cell? ⟨gb106, 0, none⟩ = some (.int .i64 a1_0) := (blk_cell BK106.out 0).trans rfl; have hcz80_1 : w79.cell? ⟨gb106, 1, none⟩ = some (.int .i64 a1_1) := (blk_cell BK106.out 1).trans rfl; have hcz80_2 : w79.cell? ⟨gb106, 2, none⟩ = some (.int .i64 a1_2) := (blk_cell BK106.out 2).trans rfl; have hcz80_3 : w79.cell? ⟨gb106, 3, none⟩ = some (.int .i64 a1_3) := (blk_cell BK106.out 3).trans rfl; have hcz80_4 : w79.cell? ⟨gb106, 4, none⟩ = some (.int .i64 a1_4) := (blk_cell BK106.out 4).trans rfl; have hcz80_5 : w79.cell? ⟨gb106, 5, none⟩ = some (.int .i64 a1_5) := (blk_cell BK106.out 5).trans rfl; have hcz80_6 : w79.cell? ⟨gb106, 6, none⟩ = some (.int .u64 a1_6) := (blk_cell BK106.out 6).trans rfl; have hcz80_7 : w79.cell? ⟨gb106, 7, none⟩ = some (.int .u64 a1_7) := (blk_cell BK106.out 7).trans rfl; have hcz80_8 : w79.cell? ⟨gb106, 8, none⟩ = some (.int .i64 a1_8) := (blk_cell BK106.out 8).trans rfl; have hcz80_9 : w79.cell? ⟨gb106, 9, none⟩ = some (.int .i64 a1_9) := (blk_cell BK106.out 9).trans rfl; have hcz80_10 : w79.cell? ⟨gb106, 10, none⟩ = some (.bool a1_10) := (blk_cell BK106.out 10).trans rfl; have hcz80_11 : w79.cell? ⟨gb106, 11, none⟩ = some (.int .u64 a1_11) := (blk_cell BK106.out 11).trans rfl; have hcz80_12 : w79.cell? ⟨gb106, 12, none⟩ = some (.slice A1_12 l1_12.length c1_12) := (blk_cell BK106.out 12).trans rfl; have hfz80_0 := blk_frozen BK106.out 0; have hfz80_1 := blk_frozen BK106.out 1; have hfz80_2 := blk_frozen BK106.out 2; have hfz80_3 := blk_frozen BK106.out 3; have hfz80_4 := blk_frozen BK106.out 4; have hfz80_5 := blk_frozen BK106.out 5; have hfz80_6 := blk_frozen BK106.out 6; have hfz80_7 := blk_frozen BK106.out 7; have hfz80_8 := blk_frozen BK106.out 8; have hfz80_9 := blk_frozen BK106.out 9; have hfz80_10 := blk_frozen BK106.out 10; have hfz80_11 := blk_frozen BK106.out 11; have hfz80_12 := blk_frozen BK106.out 12; have hcz81_0 : w79.cell? ⟨gb105, 0, none⟩ = some (.int .i64 a0_0) := (blk_cell BK105.out 0).trans rfl; have hcz81_1 : w79.cell? ⟨gb105, 1, none⟩ = some (.int .i64 a0_1) := (blk_cell BK105.out 1).trans rfl; have hcz81_2 : w79.cell? ⟨gb105, 2, none⟩ = some (.int .i64 a0_2) := (blk_cell BK105.out 2).trans rfl; have hcz81_3 : w79.cell? ⟨gb105, 3, none⟩ = some (.int .i64 a0_3) := (blk_cell BK105.out 3).trans rfl; have hcz81_4 : w79.cell? ⟨gb105, 4, none⟩ = some (.int .i64 a0_4) := (blk_cell BK105.out 4).trans rfl; have hcz81_5 : w79.cell? ⟨gb105, 5, none⟩ = some (.int .i64 a0_5) := (blk_cell BK105.out 5).trans rfl; have hcz81_6 : w79.cell? ⟨gb105, 6, none⟩ = some (.int .u64 a0_6) := (blk_cell BK105.out 6).trans rfl; have hcz81_7 : w79.cell? ⟨gb105, 7, none⟩ = some (.int .u64 a0_7) := (blk_cell BK105.out 7).trans rfl; have hcz81_8 : w79.cell? ⟨gb105, 8, none⟩ = some (.int .i64 a0_8) := (blk_cell BK105.out 8).trans rfl; have hcz81_9 : w79.cell? ⟨gb105, 9, none⟩ = some (.int .i64 a0_9) := (blk_cell BK105.out 9).trans rfl; have hcz81_10 : w79.cell? ⟨gb105, 10, none⟩ = some (.bool a0_10) := (blk_cell BK105.out 10).trans rfl; have hcz81_11 : w79.cell? ⟨gb105, 11, none⟩ = some (.int .u64 a0_11) := (blk_cell BK105.out 11).trans rfl; have hcz81_12 : w79.cell? ⟨gb105, 12, none⟩ = some (.slice A0_12 l0_12.length c0_12) := (blk_cell BK105.out 12).trans rfl; have hfz81_0 := blk_frozen BK105.out 0; have hfz81_1 := blk_frozen BK105.out 1; have hfz81_2 := blk_frozen BK105.out 2; have hfz81_3 := blk_frozen BK105.out 3; have hfz81_4 := blk_frozen BK105.out 4; have hfz81_5 := blk_frozen BK105.out 5; have hfz81_6 := blk_frozen BK105.out 6; have hfz81_7 := blk_frozen BK105.out 7; have hfz81_8 := blk_frozen BK105.out 8; have hfz81_9 := blk_frozen BK105.out 9; have hfz81_10 := blk_frozen BK105.out 10; have hfz81_11 := blk_frozen BK105.out 11; have hfz81_12 := blk_frozen BK105.out 12) | (go_at_call 19; (with_reducible refine (history_Before.calls a1_0 a1_1 a1_2 a1_3 a1_4 a1_5 a1_6 a1_7 a1_8 a1_9 a1_10 a1_11 _ _ l1_12 a0_0 a0_1 a0_2 a0_3 a0_4 a0_5 a0_6 a0_7 a0_8 a0_9 a0_10 a0_11 _ _ l0_12 false _ ?side1 ?side2 ?side3 ?side4 A61.out).mono ?_); (case side1 => repeat (first | exact (Kd.C_below HR1_12.out HB.out) | (with_reducible refine Kd.C_alloc ?_ _) | (with_reducible refine Kd.C_drewN ?_ _) | (with_reducible refine Kd.C_drew ?_))); (case side2 => exact HC1_12.out); (case side3 => repeat (first | exact (Kd.C_below HR0_12.out HB.out) | (with_reducible refine Kd.C_alloc ?_ _) | (with_reducible refine Kd.C_drewN ?_ _) | (with_reducible refine Kd.C_drew ?_))); (case side4 => exact HC0_12.out); rintro e w82 ⟨rfl, hb⟩; have n0_ := Aside0.mk (blk_below (g := gb105) (o := .cells #[.int .i64 a0_0, .int .i64 a0_1, .int .i64 a0_2, .int .i64 a0_3, .int .i64 a0_4, .int .i64 a0_5, .int .u64 a0_6, .int .u64 a0_7, .int .i64 a0_8, .int .i64 a0_9, .bool a0_10, .int .u64 a0_11, .slice A0_12 l0_12.length c0_12] 31 (0, 0)) (by (with_reducible repeat (first | refine blk_drewN ?_ _ | refine blk_drew ?_ | refine blk_alloc ?_ _)); exact BK105.out) hb); have n1_ := Aside0.mk (blk_below (g := gb106) (o := .cells #[.int .i64 a1_0, .int .i64 a1_1, .int .i64 a1_2, .int .i64 a1_3, .int .i64 a1_4, .int .i64 a1_5, .int .u64 a1_6, .int .u64 a1_7, .int .i64 a1_8, .int .i64 a1_9, .bool a1_10, .int .u64 a1_11, .slice A1_12 l1_12.length c1_12] 31 (0, 0)) (by (with_reducible repeat (first | refine blk_drewN ?_ _ | refine blk_drew ?_ | refine blk_alloc ?_ _)); exact BK106.out) hb); have n2_ := Aside0.mk (blk_below (g := gb107) (o := .cells #[.int .i64 a2_0, .int .i64 a2_1, .int .i64 a2_2, .int .i64 a2_3, .int .i64 a2_4, .int .i64 a2_5, .int .u64 a2_6, .int .u64 a2_7, .int .i64 a2_8, .int .i64 a2_9, .bool a2_10, .int .u64 a2_11, .slice A2_12 l2_12.length c2_12] 31 (0, 0)) (by (with_reducible repeat (first | refine blk_drewN ?_ _ | refine blk_drew ?_ | refine blk_alloc ?_ _)); exact BK107.out) hb); have n3_ := Aside0.mk (below_step (by repeat (first | (with_reducible first | exact HB.out | apply below_alloc | apply pw_below_drewN | apply below_drew1 | refine below_set ?_ GE105.out | refine below_set ?_ GE106.out | refine below_set ?_ GE107.out) | exact HB.out)) hb); clear BK105; clear BK106; clear BK107; clear HB; have BK105 := n0_; have BK106 := n1_; have BK107 := n2_; have HB := n3_; clear n0_ n1_ n2_ n3_; (try clear hb); (try clear hb2); (try clear hk); (try clear hi); have hcz83_0 : w82.cell? ⟨gb105, 0, none⟩ = some (.int .i64 a0_0) := (blk_cell BK105.out 0).trans rfl; have hcz83_1 : w82.cell? ⟨gb105, 1, none⟩ = some (.int .i64 a0_1) := (blk_cell BK105.out 1).trans rfl; have hcz83_2 : w82.cell? ⟨gb105, 2, none⟩ = some (.int .i64 a0_2) := (blk_cell BK105.out 2).trans rfl; have hcz83_3 : w82.cell? ⟨gb105, 3, none⟩ = some (.int .i64 a0_3) := (blk_cell BK105.out 3).trans rfl; have hcz83_4 : w82.cell? ⟨gb105, 4, none⟩ = some (.int .i64 a0_4) := (blk_cell BK105.out 4).trans rfl; have hcz83_5 : w82.cell? ⟨gb105, 5, none⟩ = some (.int .i64 a0_5) := (blk_cell BK105.out 5).trans rfl; have hcz83_6 : w82.cell? ⟨gb105, 6, none⟩ = some (.int .u64 a0_6) := (blk_cell BK105.out 6).trans rfl; have hcz83_7 : w82.cell? ⟨gb105, 7, none⟩ = some (.int .u64 a0_7) := (blk_cell BK105.out 7).trans rfl; have hcz83_8 : w82.cell? ⟨gb105, 8, none⟩ = some (.int .i64 a0_8) := (blk_cell BK105.out 8).trans rfl; have hcz83_9 : w82.cell? ⟨gb105, 9, none⟩ = some (.int .i64 a0_9) := (blk_cell BK105.out 9).trans rfl; have hcz83_10 : w82.cell? ⟨gb105, 10, none⟩ = some (.bool a0_10) := (blk_cell BK105.out 10).trans rfl; have hcz83_11 : w82.cell? ⟨gb105, 11, none⟩ = some (.int .u64 a0_11) := (blk_cell BK105.out 11).trans rfl; have hcz83_12 : w82.cell? ⟨gb105, 12, none⟩ = some (.slice A0_12 l0_12.length c0_12) := (blk_cell BK105.out 12).trans rfl; have hfz83_0 := blk_frozen BK105.out 0; have hfz83_1 := blk_frozen BK105.out 1; have hfz83_2 := blk_frozen BK105.out 2; have hfz83_3 := blk_frozen BK105.out 3; have hfz83_4 := blk_frozen BK105.out 4; have hfz83_5 := blk_frozen BK105.out 5; have hfz83_6 := blk_frozen BK105.out 6; have hfz83_7 := blk_frozen BK105.out 7; have hfz83_8 := blk_frozen BK105.out 8; have hfz83_9 := blk_frozen BK105.out 9; have hfz83_10 := blk_frozen BK105.out 10; have hfz83_11 := blk_frozen BK105.out 11; have hfz83_12 := blk_frozen BK105.out 12) | (go_at_call 19; (with_reducible refine (history_Before.calls a0_0 a0_1 a0_2 a0_3 a0_4 a0_5 a0_6 a0_7 a0_8 a0_9 a0_10 a0_11 _ _ l0_12 a0_0 a0_1 a0_2 a0_3 a0_4 a0_5 a0_6 a0_7 a0_8 a0_9 a0_10 a0_11 _ _ l0_12 true _ ?side1 ?side2 ?side3 ?side4 A72.out).mono ?_); (case side1 => repeat (first | exact (Kd.C_below HR0_12.out HB.out) | (with_reducible refine Kd.C_alloc ?_ _) | (with_reducible refine Kd.C_drewN ?_ _) | (with_reducible refine Kd.C_drew ?_))); (case side2 => exact HC0_12.out); (case side3 => repeat (first | exact (Kd.C_below HR0_12.out HB.out) | (with_reducible refine Kd.C_alloc ?_ _) | (with_reducible refine Kd.C_drewN ?_ _) | (with_reducible refine Kd.C_drew ?_))); (case side4 => exact HC0_12.out); rintro e w84 ⟨rfl, hb⟩; have n0_ := Aside0.mk (blk_below (g := gb105) (o := .cells #[.int .i64 a0_0, .int .i64 a0_1, .int .i64 a0_2, .int .i64 a0_3, .int .i64 a0_4, .int .i64 a0_5, .int .u64 a0_6, .int .u64 a0_7, .int .i64 a0_8, .int .i64 a0_9, .bool a0_10, .int .u64 a0_11, .slice A0_12 l0_12.length c0_12] 31 (0, 0)) (by (with_reducible repeat (first | refine blk_drewN ?_ _ | refine blk_drew ?_ | refine blk_alloc ?_ _)); exact BK105.out) hb); have n1_ := Aside0.mk (blk_below (g := gb106) (o := .cells #[.int .i64 a1_0, .int .i64 a1_1, .int .i64 a1_2, .int .i64 a1_3, .int .i64 a1_4, .int .i64 a1_5, .int .u64 a1_6, .int .u64 a1_7, .int .i64 a1_8, .int .i64 a1_9, .bool a1_10, .int .u64 a1_11, .slice A1_12 l1_12.length c1_12] 31 (0, 0)) (by (with_reducible repeat (first | refine blk_drewN ?_ _ | refine blk_drew ?_ | refine blk_alloc ?_ _)); exact BK106.out) hb); have n2_ := Aside0.mk (blk_below (g := gb107) (o := .cells #[.int .i64 a2_0, .int .i64 a2_1, .int .i64 a2_2, .int .i64 a2_3, .int .i64 a2_4, .int .i64 a2_5, .int .u64 a2_6, .int .u64 a2_7, .int .i64 a2_8, .int .i64 a2_9, .bool a2_10, .int .u64 a2_11, .slice A2_12 l2_12.length c2_12] 31 (0, 0)) (by (with_reducible repeat (first | refine blk_drewN ?_ _ | refine blk_drew ?_ | refine blk_alloc ?_ _)); exact BK107.out) hb); have n3_ := Aside0.mk (below_step (by repeat (first | (with_reducible first | exact HB.out | apply below_alloc | apply pw_below_drewN | apply below_drew1 | refine below_set ?_ GE105.out | refine below_set ?_ GE106.out | refine below_set ?_ GE107.out) | exact HB.out)) hb); clear BK105; clear BK106; clear BK107; clear HB; have BK105 := n0_; have BK106 := n1_; have BK107 := n2_; have HB := n3_; clear n0_ n1_ n2_ n3_; (try clear hb); (try clear hb2); (try clear hk); (try clear hi)))
                  go_ret
                  exact ⟨by first | rfl | (simp [errW_none, errW_some] <;> rfl) | (simp [*, errW_none, errW_some] <;> rfl), by repeat (first | (with_reducible first | exact HB.out | apply below_alloc | apply pw_below_drewN | apply below_drew1 | refine below_set ?_ GE105.out | refine below_set ?_ GE106.out | refine below_set ?_ GE107.out) | exact HB.out)⟩
                · replace c73 := Bool.eq_false_iff.mpr c73
                  subst c73
                  have H1 : (if t110 = true then ((history_Before.f a0_0 a0_1 a0_2 a0_3 a0_4 a0_5 a0_6 a0_7 a0_8 a0_9 a0_10 a0_11 l0_12 a2_0 a2_1 a2_2 a2_3 a2_4 a2_5 a2_6 a2_7 a2_8 a2_9 a2_10 a2_11 l2_12).bind fun t115 => (some t115)) else (some true)) = some r := by rw [if_neg (show ¬ (false = true) by decide)] at H; exact H
                  clear H
                  have H := H1
                  clear H1
                  by_cases c85 : t110 = true
                  · subst c85
                    have H1 : ((history_Before.f a0_0 a0_1 a0_2 a0_3 a0_4 a0_5 a0_6 a0_7 a0_8 a0_9 a0_10 a0_11 l0_12 a2_0 a2_1 a2_2 a2_3 a2_4 a2_5 a2_6 a2_7 a2_8 a2_9 a2_10 a2_11 l2_12).bind fun t115 => (some t115)) = some r := by rw [if_pos rfl] at H; exact H
                    clear H
                    have H := H1
                    clear H1
                    replace H := Option.bind_eq_some_iff.mp H
                    obtain ⟨t115, A860, H⟩ := H
                    replace H : (some t115) = some r := H
                    have A86 := Aside0.mk A860
                    clear A860
                    obtain rfl := Option.some.inj H
                    have hnb87 := NB105_106.out
                    have hnc87 := NB106_105.out
                    have hnb88 := NB105_107.out
                    have hnc88 := NB107_105.out
                    have hcz89_0 : wc.cell? ⟨gb105, 0, none⟩ = some (.int .i64 a0_0) := (blk_cell BK105.out 0).trans rfl
                    have hcz89_1 : wc.cell? ⟨gb105, 1, none⟩ = some (.int .i64 a0_1) := (blk_cell BK105.out 1).trans rfl
                    have hcz89_2 : wc.cell? ⟨gb105, 2, none⟩ = some (.int .i64 a0_2) := (blk_cell BK105.out 2).trans rfl
                    have hcz89_3 : wc.cell? ⟨gb105, 3, none⟩ = some (.int .i64 a0_3) := (blk_cell BK105.out 3).trans rfl
                    have hcz89_4 : wc.cell? ⟨gb105, 4, none⟩ = some (.int .i64 a0_4) := (blk_cell BK105.out 4).trans rfl
                    have hcz89_5 : wc.cell? ⟨gb105, 5, none⟩ = some (.int .i64 a0_5) := (blk_cell BK105.out 5).trans rfl
                    have hcz89_6 : wc.cell? ⟨gb105, 6, none⟩ = some (.int .u64 a0_6) := (blk_cell BK105.out 6).trans rfl
                    have hcz89_7 : wc.cell? ⟨gb105, 7, none⟩ = some (.int .u64 a0_7) := (blk_cell BK105.out 7).trans rfl
                    have hcz89_8 : wc.cell? ⟨gb105, 8, none⟩ = some (.int .i64 a0_8) := (blk_cell BK105.out 8).trans rfl
                    have hcz89_9 : wc.cell? ⟨gb105, 9, none⟩ = some (.int .i64 a0_9) := (blk_cell BK105.out 9).trans rfl
                    have hcz89_10 : wc.cell? ⟨gb105, 10, none⟩ = some (.bool a0_10) := (blk_cell BK105.out 10).trans rfl
                    have hcz89_11 : wc.cell? ⟨gb105, 11, none⟩ = some (.int .u64 a0_11) := (blk_cell BK105.out 11).trans rfl
                    have hcz89_12 : wc.cell? ⟨gb105, 12, none⟩ = some (.slice A0_12 l0_12.length c0_12) := (blk_cell BK105.out 12).trans rfl
                    have hfz89_0 := blk_frozen BK105.out 0
                    have hfz89_1 := blk_frozen BK105.out 1
                    have hfz89_2 := blk_frozen BK105.out 2
                    have hfz89_3 := blk_frozen BK105.out 3
                    have hfz89_4 := blk_frozen BK105.out 4
                    have hfz89_5 := blk_frozen BK105.out 5
                    have hfz89_6 := blk_frozen BK105.out 6
                    have hfz89_7 := blk_frozen BK105.out 7
                    have hfz89_8 := blk_frozen BK105.out 8
                    have hfz89_9 := blk_frozen BK105.out 9
                    have hfz89_10 := blk_frozen BK105.out 10
                    have hfz89_11 := blk_frozen BK105.out 11
                    have hfz89_12 := blk_frozen BK105.out 12
                    have hnb90 := NB106_107.out
                    have hnc90 := NB107_106.out
                    have hcz91_0 : wc.cell? ⟨gb106, 0, none⟩ = some (.int .i64 a1_0) := (blk_cell BK106.out 0).trans rfl
                    have hcz91_1 : wc.cell? ⟨gb106, 1, none⟩ = some (.int .i64 a1_1) := (blk_cell BK106.out 1).trans rfl
                    have hcz91_2 : wc.cell? ⟨gb106, 2, none⟩ = some (.int .i64 a1_2) := (blk_cell BK106.out 2).trans rfl
                    have hcz91_3 : wc.cell? ⟨gb106, 3, none⟩ = some (.int .i64 a1_3) := (blk_cell BK106.out 3).trans rfl
                    have hcz91_4 : wc.cell? ⟨gb106, 4, none⟩ = some (.int .i64 a1_4) := (blk_cell BK106.out 4).trans rfl
                    have hcz91_5 : wc.cell? ⟨gb106, 5, none⟩ = some (.int .i64 a1_5) := (blk_cell BK106.out 5).trans rfl
                    have hcz91_6 : wc.cell? ⟨gb106, 6, none⟩ = some (.int .u64 a1_6) := (blk_cell BK106.out 6).trans rfl
                    have hcz91_7 : wc.cell? ⟨gb106, 7, none⟩ = some (.int .u64 a1_7) := (blk_cell BK106.out 7).trans rfl
                    have hcz91_8 : wc.cell? ⟨gb106, 8, none⟩ = some (.int .i64 a1_8) := (blk_cell BK106.out 8).trans rfl
                    have hcz91_9 : wc.cell? ⟨gb106, 9, none⟩ = some (.int .i64 a1_9) := (blk_cell BK106.out 9).trans rfl
                    have hcz91_10 : wc.cell? ⟨gb106, 10, none⟩ = some (.bool a1_10) := (blk_cell BK106.out 10).trans rfl
                    have hcz91_11 : wc.cell? ⟨gb106, 11, none⟩ = some (.int .u64 a1_11) := (blk_cell BK106.out 11).trans rfl
                    have hcz91_12 : wc.cell? ⟨gb106, 12, none⟩ = some (.slice A1_12 l1_12.length c1_12) := (blk_cell BK106.out 12).trans rfl
                    have hfz91_0 := blk_frozen BK106.out 0
                    have hfz91_1 := blk_frozen BK106.out 1
                    have hfz91_2 := blk_frozen BK106.out 2
                    have hfz91_3 := blk_frozen BK106.out 3
                    have hfz91_4 := blk_frozen BK106.out 4
                    have hfz91_5 := blk_frozen BK106.out 5
                    have hfz91_6 := blk_frozen BK106.out 6
                    have hfz91_7 := blk_frozen BK106.out 7
                    have hfz91_8 := blk_frozen BK106.out 8
                    have hfz91_9 := blk_frozen BK106.out 9
                    have hfz91_10 := blk_frozen BK106.out 10
                    have hfz91_11 := blk_frozen BK106.out 11
                    have hfz91_12 := blk_frozen BK106.out 12
                    go_wp2_with (first | (go_at_call 20; (with_reducible refine (corrieref19_Before.calls a0_0 a0_1 a0_2 a0_3 a0_4 a0_5 a0_6 a0_7 a0_8 a0_9 a0_10 a0_11 _ _ l0_12 a1_0 a1_1 a1_2 a1_3 a1_4 a1_5 a1_6 a1_7 a1_8 a1_9 a1_10 a1_11 _ _ l1_12 t112 _ ?side1 ?side2 ?side3 ?side4 A58.out).mono ?_); (case side1 => repeat (first | exact (Kd.C_below HR0_12.out HB.out) | (with_reducible refine Kd.C_alloc ?_ _) | (with_reducible refine Kd.C_drewN ?_ _) | (with_reducible refine Kd.C_drew ?_))); (case side2 => exact HC0_12.out); (case side3 => repeat (first | exact (Kd.C_below HR1_12.out HB.out) | (with_reducible refine Kd.C_alloc ?_ _) | (with_reducible refine Kd.C_drewN ?_ _) | (with_reducible refine Kd.C_drew ?_))); (case side4 => exact HC1_12.out); rintro e w92 ⟨rfl, hb⟩; have n0_ := Aside0.mk (blk_below (g := gb105) (o := .cells #[.int .i64 a0_0, .int .i64 a0_1, .int .i64 a0_2, .int .i64 a0_3, .int .i64 a0_4, .int .i64 a0_5, .int .u64 a0_6, .int .u64 a0_7, .int .i64 a0_8, .int .i64 a0_9, .bool a0_10, .int .u64 a0_11, .slice A0_12 l0_12.length c0_12] 31 (0, 0)) (by (with_reducible repeat (first | refine blk_drewN ?_ _ | refine blk_drew ?_ | refine blk_alloc ?_ _)); exact BK105.out) hb); have n1_ := Aside0.mk (blk_below (g := gb106) (o := .cells #[.int .i64 a1_0, .int .i64 a1_1, .int .i64 a1_2, .int .i64 a1_3, .int .i64 a1_4, .int .i64 a1_5, .int .u64 a1_6, .int .u64 a1_7, .int .i64 a1_8, .int .i64 a1_9, .bool a1_10, .int .u64 a1_11, .slice A1_12 l1_12.length c1_12] 31 (0, 0)) (by (with_reducible repeat (first | refine blk_drewN ?_ _ | refine blk_drew ?_ | refine blk_alloc ?_ _)); exact BK106.out) hb); have n2_ := Aside0.mk (blk_below (g := gb107) (o := .cells #[.int .i64 a2_0, .int .i64 a2_1, .int .i64 a2_2, .int .i64 a2_3, .int .i64 a2_4, .int .i64 a2_5, .int .u64 a2_6, .int .u64 a2_7, .int .i64 a2_8, .int .i64 a2_9, .bool a2_10, .int .u64 a2_11, .slice A2_12 l2_12.length c2_12] 31 (0, 0)) (by (with_reducible repeat (first | refine blk_drewN ?_ _ | refine blk_drew ?_ | refine blk_alloc ?_ _)); exact BK107.out) hb); have n3_ := Aside0.mk (below_step (by repeat (first | (with_reducible first | exact HB.out | apply below_alloc | apply pw_below_drewN | apply below_drew1 | refine below_set ?_ GE105.out | refine below_set ?_ GE106.out | refine below_set ?_ GE107.out) | exact HB.out)) hb); clear BK105; clear BK106; clear BK107; clear HB; have BK105 := n0_; have BK106 := n1_; have BK107 := n2_; have HB := n3_; clear n0_ n1_ n2_ n3_; (try clear hb); (try clear hb2); (try clear hk); (try clear hi); have hcz93_0 : w92.cell? ⟨gb106, 0, none⟩ = some (.int .i64 a1_0) := (blk_cell BK106.out 0).trans rfl; have hcz93_1 : w92.cell? ⟨gb106, 1, none⟩ = some (.int .i64 a1_1) := (blk_cell BK106.out 1).trans rfl; have hcz93_2 : w92.cell? ⟨gb106, 2, none⟩ = some (.int .i64 a1_2) := (blk_cell BK106.out 2).trans rfl; have hcz93_3 : w92.cell? ⟨gb106, 3, none⟩ = some (.int .i64 a1_3) := (blk_cell BK106.out 3).trans rfl; have hcz93_4 : w92.cell? ⟨gb106, 4, none⟩ = some (.int .i64 a1_4) := (blk_cell BK106.out 4).trans rfl; have hcz93_5 : w92.cell? ⟨gb106, 5, none⟩ = some (.int .i64 a1_5) := (blk_cell BK106.out 5).trans rfl; have hcz93_6 : w92.cell? ⟨gb106, 6, none⟩ = some (.int .u64 a1_6) := (blk_cell BK106.out 6).trans rfl; have hcz93_7 : w92.cell? ⟨gb106, 7, none⟩ = some (.int .u64 a1_7) := (blk_cell BK106.out 7).trans rfl; have hcz93_8 : w92.cell? ⟨gb106, 8, none⟩ = some (.int .i64 a1_8) := (blk_cell BK106.out 8).trans rfl; have hcz93_9 : w92.cell? ⟨gb106, 9, none⟩ = some (.int .i64 a1_9) := (blk_cell BK106.out 9).trans rfl; have hcz93_10 : w92.cell? ⟨gb106, 10, none⟩ = some (.bool a1_10) := (blk_cell BK106.out 10).trans rfl; have hcz93_11 : w92.cell? ⟨gb106, 11, none⟩ = some (.int .u64 a1_11) := (blk_cell BK106.out 11).trans rfl; have hcz93_12 : w92.cell? ⟨gb106, 12, none⟩ = some (.slice A1_12 l1_12.length c1_12) := (blk_cell BK106.out 12).trans rfl; have hfz93_0 := blk_frozen BK106.out 0; have hfz93_1 := blk_frozen BK106.out 1; have hfz93_2 := blk_frozen BK106.out 2; have hfz93_3 := blk_frozen BK106.out 3; have hfz93_4 := blk_frozen BK106.out 4; have hfz93_5 := blk_frozen BK106.out 5; have hfz93_6 := blk_frozen BK106.out 6; have hfz93_7 := blk_frozen BK106.out 7; have hfz93_8 := blk_frozen BK106.out 8; have hfz93_9 := blk_frozen BK106.out 9; have hfz93_10 := blk_frozen BK106.out 10; have hfz93_11 := blk_frozen BK106.out 11; have hfz93_12 := blk_frozen BK106.out 12; have hcz94_0 : w92.cell? ⟨gb105, 0, none⟩ = some (.int .i64 a0_0) := (blk_cell BK105.out 0).trans rfl; have hcz94_1 : w92.cell? ⟨gb105, 1, none⟩ = some (.int .i64 a0_1) := (blk_cell BK105.out 1).trans rfl; have hcz94_2 : w92.cell? ⟨gb105, 2, none⟩ = some (.int .i64 a0_2) := (blk_cell BK105.out 2).trans rfl; have hcz94_3 : w92.cell? ⟨gb105, 3, none⟩ = some (.int .i64 a0_3) := (blk_cell BK105.out 3).trans rfl; have hcz94_4 : w92.cell? ⟨gb105, 4, none⟩ = some (.int .i64 a0_4) := (blk_cell BK105.out 4).trans rfl; have hcz94_5 : w92.cell? ⟨gb105, 5, none⟩ = some (.int .i64 a0_5) := (blk_cell BK105.out 5).trans rfl; have hcz94_6 : w92.cell? ⟨gb105, 6, none⟩ = some (.int .u64 a0_6) := (blk_cell BK105.out 6).trans rfl; have hcz94_7 : w92.cell? ⟨gb105, 7, none⟩ = some (.int .u64 a0_7) := (blk_cell BK105.out 7).trans rfl; have hcz94_8 : w92.cell? ⟨gb105, 8, none⟩ = some (.int .i64 a0_8) := (blk_cell BK105.out 8).trans rfl; have hcz94_9 : w92.cell? ⟨gb105, 9, none⟩ = some (.int .i64 a0_9) := (blk_cell BK105.out 9).trans rfl; have hcz94_10 : w92.cell? ⟨gb105, 10, none⟩ = some (.bool a0_10) := (blk_cell BK105.out 10).trans rfl; have hcz94_11 : w92.cell? ⟨gb105, 11, none⟩ = some (.int .u64 a0_11) := (blk_cell BK105.out 11).trans rfl; have hcz94_12 : w92.cell? ⟨gb105, 12, none⟩ = some (.slice A0_12 l0_12.length c0_12) := (blk_cell BK105.out 12).trans rfl; have hfz94_0 := blk_frozen BK105.out 0; have hfz94_1 := blk_frozen BK105.out 1; have hfz94_2 := blk_frozen BK105.out 2; have hfz94_3 := blk_frozen BK105.out 3; have hfz94_4 := blk_frozen BK105.out 4; have hfz94_5 := blk_frozen BK105.out 5; have hfz94_6 := blk_frozen BK105.out 6; have hfz94_7 := blk_frozen BK105.out 7; have hfz94_8 := blk_frozen BK105.out 8; have hfz94_9 := blk_frozen BK105.out 9; have hfz94_10 := blk_frozen BK105.out 10; have hfz94_11 := blk_frozen BK105.out 11; have hfz94_12 := blk_frozen BK105.out 12) | (go_at_call 19; (with_reducible refine (history_Before.calls a1_0 a1_1 a1_2 a1_3 a1_4 a1_5 a1_6 a1_7 a1_8 a1_9 a1_10 a1_11 _ _ l1_12 a0_0 a0_1 a0_2 a0_3 a0_4 a0_5 a0_6 a0_7 a0_8 a0_9 a0_10 a0_11 _ _ l0_12 false _ ?side1 ?side2 ?side3 ?side4 A61.out).mono ?_); (case side1 => repeat (first | exact (Kd.C_below HR1_12.out HB.out) | (with_reducible refine Kd.C_alloc ?_ _) | (with_reducible refine Kd.C_drewN ?_ _) | (with_reducible refine Kd.C_drew ?_))); (case side2 => exact HC1_12.out); (case side3 => repeat (first | exact (Kd.C_below HR0_12.out HB.out) | (with_reducible refine Kd.C_alloc ?_ _) | (with_reducible refine Kd.C_drewN ?_ _) | (with_reducible refine Kd.C_drew ?_))); (case side4 => exact HC0_12.out); rintro e w95 ⟨rfl, hb⟩; have n0_ := Aside0.mk (blk_below (g := gb105) (o := .cells #[.int .i64 a0_0, .int .i64 a0_1, .int .i64 a0_2, .int .i64 a0_3, .int .i64 a0_4, .int .i64 a0_5, .int .u64 a0_6, .int .u64 a0_7, .int .i64 a0_8, .int .i64 a0_9, .bool a0_10, .int .u64 a0_11, .slice A0_12 l0_12.length c0_12] 31 (0, 0)) (by (with_reducible repeat (first | refine blk_drewN ?_ _ | refine blk_drew ?_ | refine blk_alloc ?_ _)); exact BK105.out) hb); have n1_ := Aside0.mk (blk_below (g := gb106) (o := .cells #[.int .i64 a1_0, .int .i64 a1_1, .int .i64 a1_2, .int .i64 a1_3, .int .i64 a1_4, .int .i64 a1_5, .int .u64 a1_6, .int .u64 a1_7, .int .i64 a1_8, .int .i64 a1_9, .bool a1_10, .int .u64 a1_11, .slice A1_12 l1_12.length c1_12] 31 (0, 0)) (by (with_reducible repeat (first | refine blk_drewN ?_ _ | refine blk_drew ?_ | refine blk_alloc ?_ _)); exact BK106.out) hb); have n2_ := Aside0.mk (blk_below (g := gb107) (o := .cells #[.int .i64 a2_0, .int .i64 a2_1, .int .i64 a2_2, .int .i64 a2_3, .int .i64 a2_4, .int .i64 a2_5, .int .u64 a2_6, .int .u64 a2_7, .int .i64 a2_8, .int .i64 a2_9, .bool a2_10, .int .u64 a2_11, .slice A2_12 l2_12.length c2_12] 31 (0, 0)) (by (with_reducible repeat (first | refine blk_drewN ?_ _ | refine blk_drew ?_ | refine blk_alloc ?_ _)); exact BK107.out) hb); have n3_ := Aside0.mk (below_step (by repeat (first | (with_reducible first | exact HB.out | apply below_alloc | apply pw_below_drewN | apply below_drew1 | refine below_set ?_ GE105.out | refine below_set ?_ GE106.out | refine below_set ?_ GE107.out) | exact HB.out)) hb); clear BK105; clear BK106; clear BK107; clear HB; have BK105 := n0_; have BK106 := n1_; have BK107 := n2_; have HB := n3_; clear n0_ n1_ n2_ n3_; (try clear hb); (try clear hb2); (try clear hk); (try clear hi); have hcz96_0 : w95.cell? ⟨gb105, 0, none⟩ = some (.int .i64 a0_0) := (blk_cell BK105.out 0).trans rfl; have hcz96_1 : w95.cell? ⟨gb105, 1, none⟩ = some (.int .i64 a0_1) := (blk_cell BK105.out 1).trans rfl; have hcz96_2 : w95.cell? ⟨gb105, 2, none⟩ = some (.int .i64 a0_2) := (blk_cell BK105.out 2).trans rfl; have hcz96_3 : w95.cell? ⟨gb105, 3, none⟩ = some (.int .i64 a0_3) := (blk_cell BK105.out 3).trans rfl; have hcz96_4 : w95.cell? ⟨gb105, 4, none⟩ = some (.int .i64 a0_4) := (blk_cell BK105.out 4).trans rfl; have hcz96_5 : w95.cell? ⟨gb105, 5, none⟩ = some (.int .i64 a0_5) := (blk_cell BK105.out 5).trans rfl; have hcz96_6 : w95.cell? ⟨gb105, 6, none⟩ = some (.int .u64 a0_6) := (blk_cell BK105.out 6).trans rfl; have hcz96_7 : w95.cell? ⟨gb105, 7, none⟩ = some (.int .u64 a0_7) := (blk_cell BK105.out 7).trans rfl; have hcz96_8 : w95.cell? ⟨gb105, 8, none⟩ = some (.int .i64 a0_8) := (blk_cell BK105.out 8).trans rfl; have hcz96_9 : w95.cell? ⟨gb105, 9, none⟩ = some (.int .i64 a0_9) := (blk_cell BK105.out 9).trans rfl; have hcz96_10 : w95.cell? ⟨gb105, 10, none⟩ = some (.bool a0_10) := (blk_cell BK105.out 10).trans rfl; have hcz96_11 : w95.cell? ⟨gb105, 11, none⟩ = some (.int .u64 a0_11) := (blk_cell BK105.out 11).trans rfl; have hcz96_12 : w95.cell? ⟨gb105, 12, none⟩ = some (.slice A0_12 l0_12.length c0_12) := (blk_cell BK105.out 12).trans rfl; have hfz96_0 := blk_frozen BK105.out 0; have hfz96_1 := blk_frozen BK105.out 1; have hfz96_2 := blk_frozen BK105.out 2; have hfz96_3 := blk_frozen BK105.out 3; have hfz96_4 := blk_frozen BK105.out 4; have hfz96_5 := blk_frozen BK105.out 5; have hfz96_6 := blk_frozen BK105.out 6; have hfz96_7 := blk_frozen BK105.out 7; have hfz96_8 := blk_frozen BK105.out 8; have hfz96_9 := blk_frozen BK105.out 9; have hfz96_10 := blk_frozen BK105.out 10; have hfz96_11 := blk_frozen BK105.out 11; have hfz96_12 := blk_frozen BK105.out 12) | (go_at_call 19; (with_reducible refine (history_Before.calls a0_0 a0_1 a0_2 a0_3 a0_4 a0_5 a0_6 a0_7 a0_8 a0_9 a0_10 a0_11 _ _ l0_12 a0_0 a0_1 a0_2 a0_3 a0_4 a0_5 a0_6 a0_7 a0_8 a0_9 a0_10 a0_11 _ _ l0_12 false _ ?side1 ?side2 ?side3 ?side4 A72.out).mono ?_); (case side1 => repeat (first | exact (Kd.C_below HR0_12.out HB.out) | (with_reducible refine Kd.C_alloc ?_ _) | (with_reducible refine Kd.C_drewN ?_ _) | (with_reducible refine Kd.C_drew ?_))); (case side2 => exact HC0_12.out); (case side3 => repeat (first | exact (Kd.C_below HR0_12.out HB.out) | (with_reducible refine Kd.C_alloc ?_ _) | (with_reducible refine Kd.C_drewN ?_ _) | (with_reducible refine Kd.C_drew ?_))); (case side4 => exact HC0_12.out); rintro e w97 ⟨rfl, hb⟩; have n0_ := Aside0.mk (blk_below (g := gb105) (o := .cells #[.int .i64 a0_0, .int .i64 a0_1, .int .i64 a0_2, .int .i64 a0_3, .int .i64 a0_4, .int .i64 a0_5, .int .u64 a0_6, .int .u64 a0_7, .int .i64 a0_8, .int .i64 a0_9, .bool a0_10, .int .u64 a0_11, .slice A0_12 l0_12.length c0_12] 31 (0, 0)) (by (with_reducible repeat (first | refine blk_drewN ?_ _ | refine blk_drew ?_ | refine blk_alloc ?_ _)); exact BK105.out) hb); have n1_ := Aside0.mk (blk_below (g := gb106) (o := .cells #[.int .i64 a1_0, .int .i64 a1_1, .int .i64 a1_2, .int .i64 a1_3, .int .i64 a1_4, .int .i64 a1_5, .int .u64 a1_6, .int .u64 a1_7, .int .i64 a1_8, .int .i64 a1_9, .bool a1_10, .int .u64 a1_11, .slice A1_12 l1_12.length c1_12] 31 (0, 0)) (by (with_reducible repeat (first | refine blk_drewN ?_ _ | refine blk_drew ?_ | refine blk_alloc ?_ _)); exact BK106.out) hb); have n2_ := Aside0.mk (blk_below (g := gb107) (o := .cells #[.int .i64 a2_0, .int .i64 a2_1, .int .i64 a2_2, .int .i64 a2_3, .int .i64 a2_4, .int .i64 a2_5, .int .u64 a2_6, .int .u64 a2_7, .int .i64 a2_8, .int .i64 a2_9, .bool a2_10, .int .u64 a2_11, .slice A2_12 l2_12.length c2_12] 31 (0, 0)) (by (with_reducible repeat (first | refine blk_drewN ?_ _ | refine blk_drew ?_ | refine blk_alloc ?_ _)); exact BK107.out) hb); have n3_ := Aside0.mk (below_step (by repeat (first | (with_reducible first | exact HB.out | apply below_alloc | apply pw_below_drewN | apply below_drew1 | refine below_set ?_ GE105.out | refine below_set ?_ GE106.out | refine below_set ?_ GE107.out) | exact HB.out)) hb); clear BK105; clear BK106; clear BK107; clear HB; have BK105 := n0_; have BK106 := n1_; have BK107 := n2_; have HB := n3_; clear n0_ n1_ n2_ n3_; (try clear hb); (try clear hb2); (try clear hk); (try clear hi); have hcz98_0 : w97.cell? ⟨gb105, 0, none⟩ = some (.int .i64 a0_0) := (blk_cell BK105.out 0).trans rfl; have hcz98_1 : w97.cell? ⟨gb105, 1, none⟩ = some (.int .i64 a0_1) := (blk_cell BK105.out 1).trans rfl; have hcz98_2 : w97.cell? ⟨gb105, 2, none⟩ = some (.int .i64 a0_2) := (blk_cell BK105.out 2).trans rfl; have hcz98_3 : w97.cell? ⟨gb105, 3, none⟩ = some (.int .i64 a0_3) := (blk_cell BK105.out 3).trans rfl; have hcz98_4 : w97.cell? ⟨gb105, 4, none⟩ = some (.int .i64 a0_4) := (blk_cell BK105.out 4).trans rfl; have hcz98_5 : w97.cell? ⟨gb105, 5, none⟩ = some (.int .i64 a0_5) := (blk_cell BK105.out 5).trans rfl; have hcz98_6 : w97.cell? ⟨gb105, 6, none⟩ = some (.int .u64 a0_6) := (blk_cell BK105.out 6).trans rfl; have hcz98_7 : w97.cell? ⟨gb105, 7, none⟩ = some (.int .u64 a0_7) := (blk_cell BK105.out 7).trans rfl; have hcz98_8 : w97.cell? ⟨gb105, 8, none⟩ = some (.int .i64 a0_8) := (blk_cell BK105.out 8).trans rfl; have hcz98_9 : w97.cell? ⟨gb105, 9, none⟩ = some (.int .i64 a0_9) := (blk_cell BK105.out 9).trans rfl; have hcz98_10 : w97.cell? ⟨gb105, 10, none⟩ = some (.bool a0_10) := (blk_cell BK105.out 10).trans rfl; have hcz98_11 : w97.cell? ⟨gb105, 11, none⟩ = some (.int .u64 a0_11) := (blk_cell BK105.out 11).trans rfl; have hcz98_12 : w97.cell? ⟨gb105, 12, none⟩ = some (.slice A0_12 l0_12.length c0_12) := (blk_cell BK105.out 12).trans rfl; have hfz98_0 := blk_frozen BK105.out 0; have hfz98_1 := blk_frozen BK105.out 1; have hfz98_2 := blk_frozen BK105.out 2; have hfz98_3 := blk_frozen BK105.out 3; have hfz98_4 := blk_frozen BK105.out 4; have hfz98_5 := blk_frozen BK105.out 5; have hfz98_6 := blk_frozen BK105.out 6; have hfz98_7 := blk_frozen BK105.out 7; have hfz98_8 := blk_frozen BK105.out 8; have hfz98_9 := blk_frozen BK105.out 9; have hfz98_10 := blk_frozen BK105.out 10; have hfz98_11 := blk_frozen BK105.out 11; have hfz98_12 := blk_frozen BK105.out 12; have hcz99_0 : w97.cell? ⟨gb107, 0, none⟩ = some (.int .i64 a2_0) := (blk_cell BK107.out 0).trans rfl; have hcz99_1 : w97.cell? ⟨gb107, 1, none⟩ = some (.int .i64 a2_1) := (blk_cell BK107.out 1).trans rfl; have hcz99_2 : w97.cell? ⟨gb107, 2, none⟩ = some (.int .i64 a2_2) := (blk_cell BK107.out 2).trans rfl; have hcz99_3 : w97.cell? ⟨gb107, 3, none⟩ = some (.int .i64 a2_3) := (blk_cell BK107.out 3).trans rfl; have hcz99_4 : w97.cell? ⟨gb107, 4, none⟩ = some (.int .i64 a2_4) := (blk_cell BK107.out 4).trans rfl; have hcz99_5 : w97.cell? ⟨gb107, 5, none⟩ = some (.int .i64 a2_5) := (blk_cell BK107.out 5).trans rfl; have hcz99_6 : w97.cell? ⟨gb107, 6, none⟩ = some (.int .u64 a2_6) := (blk_cell BK107.out 6).trans rfl; have hcz99_7 : w97.cell? ⟨gb107, 7, none⟩ = some (.int .u64 a2_7) := (blk_cell BK107.out 7).trans rfl; have hcz99_8 : w97.cell? ⟨gb107, 8, none⟩ = some (.int .i64 a2_8) := (blk_cell BK107.out 8).trans rfl; have hcz99_9 : w97.cell? ⟨gb107, 9, none⟩ = some (.int .i64 a2_9) := (blk_cell BK107.out 9).trans rfl; have hcz99_10 : w97.cell? ⟨gb107, 10, none⟩ = some (.bool a2_10) := (blk_cell BK107.out 10).trans rfl; have hcz99_11 : w97.cell? ⟨gb107, 11, none⟩ = some (.int .u64 a2_11) := (blk_cell BK107.out 11).trans rfl; have hcz99_12 : w97.cell? ⟨gb107, 12, none⟩ = some (.slice A2_12 l2_12.length c2_12) := (blk_cell BK107.out 12).trans rfl; have hfz99_0 := blk_frozen BK107.out 0; have hfz99_1 := blk_frozen BK107.out 1; have hfz99_2 := blk_frozen BK107.out 2; have hfz99_3 := blk_frozen BK107.out 3; have hfz99_4 := blk_frozen BK107.out 4; have hfz99_5 := blk_frozen BK107.out 5; have hfz99_6 := blk_frozen BK107.out 6; have hfz99_7 := blk_frozen BK107.out 7; have hfz99_8 := blk_frozen BK107.out 8; have hfz99_9 := blk_frozen BK107.out 9; have hfz99_10 := blk_frozen BK107.out 10; have hfz99_11 := blk_frozen BK107.out 11; have hfz99_12 := blk_frozen BK107.out 12) | (go_at_call 19; (with_reducible refine (history_Before.calls a0_0 a0_1 a0_2 a0_3 a0_4 a0_5 a0_6 a0_7 a0_8 a0_9 a0_10 a0_11 _ _ l0_12 a2_0 a2_1 a2_2 a2_3 a2_4 a2_5 a2_6 a2_7 a2_8 a2_9 a2_10 a2_11 _ _ l2_12 t115 _ ?side1 ?side2 ?side3 ?side4 A86.out).mono ?_); (case side1 => repeat (first | exact (Kd.C_below HR0_12.out HB.out) | (with_reducible refine Kd.C_alloc ?_ _) | (with_reducible refine Kd.C_drewN ?_ _) | (with_reducible refine Kd.C_drew ?_))); (case side2 => exact HC0_12.out); (case side3 => repeat (first | exact (Kd.C_below HR2_12.out HB.out) | (with_reducible refine Kd.C_alloc ?_ _) | (with_reducible refine Kd.C_drewN ?_ _) | (with_reducible refine Kd.C_drew ?_))); (case side4 => exact HC2_12.out); rintro e w100 ⟨rfl, hb⟩; have n0_ := Aside0.mk (blk_below (g := gb105) (o := .cells #[.int .i64 a0_0, .int .i64 a0_1, .int .i64 a0_2, .int .i64 a0_3, .int .i64 a0_4, .int .i64 a0_5, .int .u64 a0_6, .int .u64 a0_7, .int .i64 a0_8, .int .i64 a0_9, .bool a0_10, .int .u64 a0_11, .slice A0_12 l0_12.length c0_12] 31 (0, 0)) (by (with_reducible repeat (first | refine blk_drewN ?_ _ | refine blk_drew ?_ | refine blk_alloc ?_ _)); exact BK105.out) hb); have n1_ := Aside0.mk (blk_below (g := gb106) (o := .cells #[.int .i64 a1_0, .int .i64 a1_1, .int .i64 a1_2, .int .i64 a1_3, .int .i64 a1_4, .int .i64 a1_5, .int .u64 a1_6, .int .u64 a1_7, .int .i64 a1_8, .int .i64 a1_9, .bool a1_10, .int .u64 a1_11, .slice A1_12 l1_12.length c1_12] 31 (0, 0)) (by (with_reducible repeat (first | refine blk_drewN ?_ _ | refine blk_drew ?_ | refine blk_alloc ?_ _)); exact BK106.out) hb); have n2_ := Aside0.mk (blk_below (g := gb107) (o := .cells #[.int .i64 a2_0, .int .i64 a2_1, .int .i64 a2_2, .int .i64 a2_3, .int .i64 a2_4, .int .i64 a2_5, .int .u64 a2_6, .int .u64 a2_7, .int .i64 a2_8, .int .i64 a2_9, .bool a2_10, .int .u64 a2_11, .slice A2_12 l2_12.length c2_12] 31 (0, 0)) (by (with_reducible repeat (first | refine blk_drewN ?_ _ | refine blk_drew ?_ | refine blk_alloc ?_ _)); exact BK107.out) hb); have n3_ := Aside0.mk (below_step (by repeat (first | (with_reducible first | exact HB.out | apply below_alloc | apply pw_below_drewN | apply below_drew1 | refine below_set ?_ GE105.out | refine below_set ?_ GE106.out | refine below_set ?_ GE107.out) | exact HB.out)) hb); clear BK105; clear BK106; clear BK107; clear HB; have BK105 := n0_; have BK106 := n1_; have BK107 := n2_; have HB := n3_; clear n0_ n1_ n2_ n3_; (try clear hb); (try clear hb2); (try clear hk); (try clear hi)))
                    go_ret
                    exact ⟨by first | rfl | (simp [errW_none, errW_some] <;> rfl) | (simp [*, errW_none, errW_some] <;> rfl), by repeat (first | (with_reducible first | exact HB.out | apply below_alloc | apply pw_below_drewN | apply below_drew1 | refine below_set ?_ GE105.out | refine below_set ?_ GE106.out | refine below_set ?_ GE107.out) | exact HB.out)⟩
                  · replace c85 := Bool.eq_false_iff.mpr c85
                    subst c85
                    have H1 : (some true) = some r := by rw [if_neg (show ¬ (false = true) by decide)] at H; exact H
                    clear H
                    have H := H1
                    clear H1
                    obtain rfl := Option.some.inj H
                    have hnb101 := NB105_106.out
                    have hnc101 := NB106_105.out
                    have hnb102 := NB105_107.out
                    have hnc102 := NB107_105.out
                    have hcz103_0 : wc.cell? ⟨gb105, 0, none⟩ = some (.int .i64 a0_0) := (blk_cell BK105.out 0).trans rfl
                    have hcz103_1 : wc.cell? ⟨gb105, 1, none⟩ = some (.int .i64 a0_1) := (blk_cell BK105.out 1).trans rfl
                    have hcz103_2 : wc.cell? ⟨gb105, 2, none⟩ = some (.int .i64 a0_2) := (blk_cell BK105.out 2).trans rfl
                    have hcz103_3 : wc.cell? ⟨gb105, 3, none⟩ = some (.int .i64 a0_3) := (blk_cell BK105.out 3).trans rfl
                    have hcz103_4 : wc.cell? ⟨gb105, 4, none⟩ = some (.int .i64 a0_4) := (blk_cell BK105.out 4).trans rfl
                    have hcz103_5 : wc.cell? ⟨gb105, 5, none⟩ = some (.int .i64 a0_5) := (blk_cell BK105.out 5).trans rfl
                    have hcz103_6 : wc.cell? ⟨gb105, 6, none⟩ = some (.int .u64 a0_6) := (blk_cell BK105.out 6).trans rfl
                    have hcz103_7 : wc.cell? ⟨gb105, 7, none⟩ = some (.int .u64 a0_7) := (blk_cell BK105.out 7).trans rfl
                    have hcz103_8 : wc.cell? ⟨gb105, 8, none⟩ = some (.int .i64 a0_8) := (blk_cell BK105.out 8).trans rfl
                    have hcz103_9 : wc.cell? ⟨gb105, 9, none⟩ = some (.int .i64 a0_9) := (blk_cell BK105.out 9).trans rfl
                    have hcz103_10 : wc.cell? ⟨gb105, 10, none⟩ = some (.bool a0_10) := (blk_cell BK105.out 10).trans rfl
                    have hcz103_11 : wc.cell? ⟨gb105, 11, none⟩ = some (.int .u64 a0_11) := (blk_cell BK105.out 11).trans rfl
                    have hcz103_12 : wc.cell? ⟨gb105, 12, none⟩ = some (.slice A0_12 l0_12.length c0_12) := (blk_cell BK105.out 12).trans rfl
                    have hfz103_0 := blk_frozen BK105.out 0
                    have hfz103_1 := blk_frozen BK105.out 1
                    have hfz103_2 := blk_frozen BK105.out 2
                    have hfz103_3 := blk_frozen BK105.out 3
                    have hfz103_4 := blk_frozen BK105.out 4
                    have hfz103_5 := blk_frozen BK105.out 5
                    have hfz103_6 := blk_frozen BK105.out 6
                    have hfz103_7 := blk_frozen BK105.out 7
                    have hfz103_8 := blk_frozen BK105.out 8
                    have hfz103_9 := blk_frozen BK105.out 9
                    have hfz103_10 := blk_frozen BK105.out 10
                    have hfz103_11 := blk_frozen BK105.out 11
                    have hfz103_12 := blk_frozen BK105.out 12
                    have hnb104 := NB106_107.out
                    have hnc104 := NB107_106.out
                    have hcz105_0 : wc.cell? ⟨gb106, 0, none⟩ = some (.int .i64 a1_0) := (blk_cell BK106.out 0).trans rfl
                    have hcz105_1 : wc.cell? ⟨gb106, 1, none⟩ = some (.int .i64 a1_1) := (blk_cell BK106.out 1).trans rfl
                    have hcz105_2 : wc.cell? ⟨gb106, 2, none⟩ = some (.int .i64 a1_2) := (blk_cell BK106.out 2).trans rfl
                    have hcz105_3 : wc.cell? ⟨gb106, 3, none⟩ = some (.int .i64 a1_3) := (blk_cell BK106.out 3).trans rfl
                    have hcz105_4 : wc.cell? ⟨gb106, 4, none⟩ = some (.int .i64 a1_4) := (blk_cell BK106.out 4).trans rfl
                    have hcz105_5 : wc.cell? ⟨gb106, 5, none⟩ = some (.int .i64 a1_5) := (blk_cell BK106.out 5).trans rfl
                    have hcz105_6 : wc.cell? ⟨gb106, 6, none⟩ = some (.int .u64 a1_6) := (blk_cell BK106.out 6).trans rfl
                    have hcz105_7 : wc.cell? ⟨gb106, 7, none⟩ = some (.int .u64 a1_7) := (blk_cell BK106.out 7).trans rfl
                    have hcz105_8 : wc.cell? ⟨gb106, 8, none⟩ = some (.int .i64 a1_8) := (blk_cell BK106.out 8).trans rfl
                    have hcz105_9 : wc.cell? ⟨gb106, 9, none⟩ = some (.int .i64 a1_9) := (blk_cell BK106.out 9).trans rfl
                    have hcz105_10 : wc.cell? ⟨gb106, 10, none⟩ = some (.bool a1_10) := (blk_cell BK106.out 10).trans rfl
                    have hcz105_11 : wc.cell? ⟨gb106, 11, none⟩ = some (.int .u64 a1_11) := (blk_cell BK106.out 11).trans rfl
                    have hcz105_12 : wc.cell? ⟨gb106, 12, none⟩ = some (.slice A1_12 l1_12.length c1_12) := (blk_cell BK106.out 12).trans rfl
                    have hfz105_0 := blk_frozen BK106.out 0
                    have hfz105_1 := blk_frozen BK106.out 1
                    have hfz105_2 := blk_frozen BK106.out 2
                    have hfz105_3 := blk_frozen BK106.out 3
                    have hfz105_4 := blk_frozen BK106.out 4
                    have hfz105_5 := blk_frozen BK106.out 5
                    have hfz105_6 := blk_frozen BK106.out 6
                    have hfz105_7 := blk_frozen BK106.out 7
                    have hfz105_8 := blk_frozen BK106.out 8
                    have hfz105_9 := blk_frozen BK106.out 9
                    have hfz105_10 := blk_frozen BK106.out 10
                    have hfz105_11 := blk_frozen BK106.out 11
                    have hfz105_12 := blk_frozen BK106.out 12
                    go_wp2_with (first | (go_at_call 20; (with_reducible refine (corrieref19_Before.calls a0_0 a0_1 a0_2 a0_3 a0_4 a0_5 a0_6 a0_7 a0_8 a0_9 a0_10 a0_11 _ _ l0_12 a1_0 a1_1 a1_2 a1_3 a1_4 a1_5 a1_6 a1_7 a1_8 a1_9 a1_10 a1_11 _ _ l1_12 t112 _ ?side1 ?side2 ?side3 ?side4 A58.out).mono ?_); (case side1 => repeat (first | exact (Kd.C_below HR0_12.out HB.out) | (with_reducible refine Kd.C_alloc ?_ _) | (with_reducible refine Kd.C_drewN ?_ _) | (with_reducible refine Kd.C_drew ?_))); (case side2 => exact HC0_12.out); (case side3 => repeat (first | exact (Kd.C_below HR1_12.out HB.out) | (with_reducible refine Kd.C_alloc ?_ _) | (with_reducible refine Kd.C_drewN ?_ _) | (with_reducible refine Kd.C_drew ?_))); (case side4 => exact HC1_12.out); rintro e w106 ⟨rfl, hb⟩; have n0_ := Aside0.mk (blk_below (g := gb105) (o := .cells #[.int .i64 a0_0, .int .i64 a0_1, .int .i64 a0_2, .int .i64 a0_3, .int .i64 a0_4, .int .i64 a0_5, .int .u64 a0_6, .int .u64 a0_7, .int .i64 a0_8, .int .i64 a0_9, .bool a0_10, .int .u64 a0_11, .slice A0_12 l0_12.length c0_12] 31 (0, 0)) (by (with_reducible repeat (first | refine blk_drewN ?_ _ | refine blk_drew ?_ | refine blk_alloc ?_ _)); exact BK105.out) hb); have n1_ := Aside0.mk (blk_below (g := gb106) (o := .cells #[.int .i64 a1_0, .int .i64 a1_1, .int .i64 a1_2, .int .i64 a1_3, .int .i64 a1_4, .int .i64 a1_5, .int .u64 a1_6, .int .u64 a1_7, .int .i64 a1_8, .int .i64 a1_9, .bool a1_10, .int .u64 a1_11, .slice A1_12 l1_12.length c1_12] 31 (0, 0)) (by (with_reducible repeat (first | refine blk_drewN ?_ _ | refine blk_drew ?_ | refine blk_alloc ?_ _)); exact BK106.out) hb); have n2_ := Aside0.mk (blk_below (g := gb107) (o := .cells #[.int .i64 a2_0, .int .i64 a2_1, .int .i64 a2_2, .int .i64 a2_3, .int .i64 a2_4, .int .i64 a2_5, .int .u64 a2_6, .int .u64 a2_7, .int .i64 a2_8, .int .i64 a2_9, .bool a2_10, .int .u64 a2_11, .slice A2_12 l2_12.length c2_12] 31 (0, 0)) (by (with_reducible repeat (first | refine blk_drewN ?_ _ | refine blk_drew ?_ | refine blk_alloc ?_ _)); exact BK107.out) hb); have n3_ := Aside0.mk (below_step (by repeat (first | (with_reducible first | exact HB.out | apply below_alloc | apply pw_below_drewN | apply below_drew1 | refine below_set ?_ GE105.out | refine below_set ?_ GE106.out | refine below_set ?_ GE107.out) | exact HB.out)) hb); clear BK105; clear BK106; clear BK107; clear HB; have BK105 := n0_; have BK106 := n1_; have BK107 := n2_; have HB := n3_; clear n0_ n1_ n2_ n3_; (try clear hb); (try clear hb2); (try clear hk); (try clear hi); have hcz107_0 : w106.cell? ⟨gb106, 0, none⟩ = some (.int .i64 a1_0) := (blk_cell BK106.out 0).trans rfl; have hcz107_1 : w106.cell? ⟨gb106, 1, none⟩ = some (.int .i64 a1_1) := (blk_cell BK106.out 1).trans rfl; have hcz107_2 : w106.cell? ⟨gb106, 2, none⟩ = some (.int .i64 a1_2) := (blk_cell BK106.out 2).trans rfl; have hcz107_3 : w106.cell? ⟨gb106, 3, none⟩ = some (.int .i64 a1_3) := (blk_cell BK106.out 3).trans rfl; have hcz107_4 : w106.cell? ⟨gb106, 4, none⟩ = some (.int .i64 a1_4) := (blk_cell BK106.out 4).trans rfl; have hcz107_5 : w106.cell? ⟨gb106, 5, none⟩ = some (.int .i64 a1_5) := (blk_cell BK106.out 5).trans rfl; have hcz107_6 : w106.cell? ⟨gb106, 6, none⟩ = some (.int .u64 a1_6) := (blk_cell BK106.out 6).trans rfl; have hcz107_7 : w106.cell? ⟨gb106, 7, none⟩ = some (.int .u64 a1_7) := (blk_cell BK106.out 7).trans rfl; have hcz107_8 : w106.cell? ⟨gb106, 8, none⟩ = some (.int .i64 a1_8) := (blk_cell BK106.out 8).trans rfl; have hcz107_9 : w106.cell? ⟨gb106, 9, none⟩ = some (.int .i64 a1_9) := (blk_cell BK106.out 9).trans rfl; have hcz107_10 : w106.cell? ⟨gb106, 10, none⟩ = some (.bool a1_10) := (blk_cell BK106.out 10).trans rfl; have hcz107_11 : w106.cell? ⟨gb106, 11, none⟩ = some (.int .u64 a1_11) := (blk_cell BK106.out 11).trans rfl; have hcz107_12 : w106.cell? ⟨gb106, 12, none⟩ = some (.slice A1_12 l1_12.length c1_12) := (blk_cell BK106.out 12).trans rfl; have hfz107_0 := blk_frozen BK106.out 0; have hfz107_1 := blk_frozen BK106.out 1; have hfz107_2 := blk_frozen BK106.out 2; have hfz107_3 := blk_frozen BK106.out 3; have hfz107_4 := blk_frozen BK106.out 4; have hfz107_5 := blk_frozen BK106.out 5; have hfz107_6 := blk_frozen BK106.out 6; have hfz107_7 := blk_frozen BK106.out 7; have hfz107_8 := blk_frozen BK106.out 8; have hfz107_9 := blk_frozen BK106.out 9; have hfz107_10 := blk_frozen BK106.out 10; have hfz107_11 := blk_frozen BK106.out 11; have hfz107_12 := blk_frozen BK106.out 12; have hcz108_0 : w106.cell? ⟨gb105, 0, none⟩ = some (.int .i64 a0_0) := (blk_cell BK105.out 0).trans rfl; have hcz108_1 : w106.cell? ⟨gb105, 1, none⟩ = some (.int .i64 a0_1) := (blk_cell BK105.out 1).trans rfl; have hcz108_2 : w106.cell? ⟨gb105, 2, none⟩ = some (.int .i64 a0_2) := (blk_cell BK105.out 2).trans rfl; have hcz108_3 : w106.cell? ⟨gb105, 3, none⟩ = some (.int .i64 a0_3) := (blk_cell BK105.out 3).trans rfl; have hcz108_4 : w106.cell? ⟨gb105, 4, none⟩ = some (.int .i64 a0_4) := (blk_cell BK105.out 4).trans rfl; have hcz108_5 : w106.cell? ⟨gb105, 5, none⟩ = some (.int .i64 a0_5) := (blk_cell BK105.out 5).trans rfl; have hcz108_6 : w106.cell? ⟨gb105, 6, none⟩ = some (.int .u64 a0_6) := (blk_cell BK105.out 6).trans rfl; have hcz108_7 : w106.cell? ⟨gb105, 7, none⟩ = some (.int .u64 a0_7) := (blk_cell BK105.out 7).trans rfl; have hcz108_8 : w106.cell? ⟨gb105, 8, none⟩ = some (.int .i64 a0_8) := (blk_cell BK105.out 8).trans rfl; have hcz108_9 : w106.cell? ⟨gb105, 9, none⟩ = some (.int .i64 a0_9) := (blk_cell BK105.out 9).trans rfl; have hcz108_10 : w106.cell? ⟨gb105, 10, none⟩ = some (.bool a0_10) := (blk_cell BK105.out 10).trans rfl; have hcz108_11 : w106.cell? ⟨gb105, 11, none⟩ = some (.int .u64 a0_11) := (blk_cell BK105.out 11).trans rfl; have hcz108_12 : w106.cell? ⟨gb105, 12, none⟩ = some (.slice A0_12 l0_12.length c0_12) := (blk_cell BK105.out 12).trans rfl; have hfz108_0 := blk_frozen BK105.out 0; have hfz108_1 := blk_frozen BK105.out 1; have hfz108_2 := blk_frozen BK105.out 2; have hfz108_3 := blk_frozen BK105.out 3; have hfz108_4 := blk_frozen BK105.out 4; have hfz108_5 := blk_frozen BK105.out 5; have hfz108_6 := blk_frozen BK105.out 6; have hfz108_7 := blk_frozen BK105.out 7; have hfz108_8 := blk_frozen BK105.out 8; have hfz108_9 := blk_frozen BK105.out 9; have hfz108_10 := blk_frozen BK105.out 10; have hfz108_11 := blk_frozen BK105.out 11; have hfz108_12 := blk_frozen BK105.out 12) | (go_at_call 19; (with_reducible refine (history_Before.calls a1_0 a1_1 a1_2 a1_3 a1_4 a1_5 a1_6 a1_7 a1_8 a1_9 a1_10 a1_11 _ _ l1_12 a0_0 a0_1 a0_2 a0_3 a0_4 a0_5 a0_6 a0_7 a0_8 a0_9 a0_10 a0_11 _ _ l0_12 false _ ?side1 ?side2 ?side3 ?side4 A61.out).mono ?_); (case side1 => repeat (first | exact (Kd.C_below HR1_12.out HB.out) | (with_reducible refine Kd.C_alloc ?_ _) | (with_reducible refine Kd.C_drewN ?_ _) | (with_reducible refine Kd.C_drew ?_))); (case side2 => exact HC1_12.out); (case side3 => repeat (first | exact (Kd.C_below HR0_12.out HB.out) | (with_reducible refine Kd.C_alloc ?_ _) | (with_reducible refine Kd.C_drewN ?_ _) | (with_reducible refine Kd.C_drew ?_))); (case side4 => exact HC0_12.out); rintro e w109 ⟨rfl, hb⟩; have n0_ := Aside0.mk (blk_below (g := gb105) (o := .cells #[.int .i64 a0_0, .int .i64 a0_1, .int .i64 a0_2, .int .i64 a0_3, .int .i64 a0_4, .int .i64 a0_5, .int .u64 a0_6, .int .u64 a0_7, .int .i64 a0_8, .int .i64 a0_9, .bool a0_10, .int .u64 a0_11, .slice A0_12 l0_12.length c0_12] 31 (0, 0)) (by (with_reducible repeat (first | refine blk_drewN ?_ _ | refine blk_drew ?_ | refine blk_alloc ?_ _)); exact BK105.out) hb); have n1_ := Aside0.mk (blk_below (g := gb106) (o := .cells #[.int .i64 a1_0, .int .i64 a1_1, .int .i64 a1_2, .int .i64 a1_3, .int .i64 a1_4, .int .i64 a1_5, .int .u64 a1_6, .int .u64 a1_7, .int .i64 a1_8, .int .i64 a1_9, .bool a1_10, .int .u64 a1_11, .slice A1_12 l1_12.length c1_12] 31 (0, 0)) (by (with_reducible repeat (first | refine blk_drewN ?_ _ | refine blk_drew ?_ | refine blk_alloc ?_ _)); exact BK106.out) hb); have n2_ := Aside0.mk (blk_below (g := gb107) (o := .cells #[.int .i64 a2_0, .int .i64 a2_1, .int .i64 a2_2, .int .i64 a2_3, .int .i64 a2_4, .int .i64 a2_5, .int .u64 a2_6, .int .u64 a2_7, .int .i64 a2_8, .int .i64 a2_9, .bool a2_10, .int .u64 a2_11, .slice A2_12 l2_12.length c2_12] 31 (0, 0)) (by (with_reducible repeat (first | refine blk_drewN ?_ _ | refine blk_drew ?_ | refine blk_alloc ?_ _)); exact BK107.out) hb); have n3_ := Aside0.mk (below_step (by repeat (first | (with_reducible first | exact HB.out | apply below_alloc | apply pw_below_drewN | apply below_drew1 | refine below_set ?_ GE105.out | refine below_set ?_ GE106.out | refine below_set ?_ GE107.out) | exact HB.out)) hb); clear BK105; clear BK106; clear BK107; clear HB; have BK105 := n0_; have BK106 := n1_; have BK107 := n2_; have HB := n3_; clear n0_ n1_ n2_ n3_; (try clear hb); (try clear hb2); (try clear hk); (try clear hi); have hcz110_0 : w109.cell? ⟨gb105, 0, none⟩ = some (.int .i64 a0_0) := (blk_cell BK105.out 0).trans rfl; have hcz110_1 : w109.cell? ⟨gb105, 1, none⟩ = some (.int .i64 a0_1) := (blk_cell BK105.out 1).trans rfl; have hcz110_2 : w109.cell? ⟨gb105, 2, none⟩ = some (.int .i64 a0_2) := (blk_cell BK105.out 2).trans rfl; have hcz110_3 : w109.cell? ⟨gb105, 3, none⟩ = some (.int .i64 a0_3) := (blk_cell BK105.out 3).trans rfl; have hcz110_4 : w109.cell? ⟨gb105, 4, none⟩ = some (.int .i64 a0_4) := (blk_cell BK105.out 4).trans rfl; have hcz110_5 : w109.cell? ⟨gb105, 5, none⟩ = some (.int .i64 a0_5) := (blk_cell BK105.out 5).trans rfl; have hcz110_6 : w109.cell? ⟨gb105, 6, none⟩ = some (.int .u64 a0_6) := (blk_cell BK105.out 6).trans rfl; have hcz110_7 : w109.cell? ⟨gb105, 7, none⟩ = some (.int .u64 a0_7) := (blk_cell BK105.out 7).trans rfl; have hcz110_8 : w109.cell? ⟨gb105, 8, none⟩ = some (.int .i64 a0_8) := (blk_cell BK105.out 8).trans rfl; have hcz110_9 : w109.cell? ⟨gb105, 9, none⟩ = some (.int .i64 a0_9) := (blk_cell BK105.out 9).trans rfl; have hcz110_10 : w109.cell? ⟨gb105, 10, none⟩ = some (.bool a0_10) := (blk_cell BK105.out 10).trans rfl; have hcz110_11 : w109.cell? ⟨gb105, 11, none⟩ = some (.int .u64 a0_11) := (blk_cell BK105.out 11).trans rfl; have hcz110_12 : w109.cell? ⟨gb105, 12, none⟩ = some (.slice A0_12 l0_12.length c0_12) := (blk_cell BK105.out 12).trans rfl; have hfz110_0 := blk_frozen BK105.out 0; have hfz110_1 := blk_frozen BK105.out 1; have hfz110_2 := blk_frozen BK105.out 2; have hfz110_3 := blk_frozen BK105.out 3; have hfz110_4 := blk_frozen BK105.out 4; have hfz110_5 := blk_frozen BK105.out 5; have hfz110_6 := blk_frozen BK105.out 6; have hfz110_7 := blk_frozen BK105.out 7; have hfz110_8 := blk_frozen BK105.out 8; have hfz110_9 := blk_frozen BK105.out 9; have hfz110_10 := blk_frozen BK105.out 10; have hfz110_11 := blk_frozen BK105.out 11; have hfz110_12 := blk_frozen BK105.out 12) | (go_at_call 19; (with_reducible refine (history_Before.calls a0_0 a0_1 a0_2 a0_3 a0_4 a0_5 a0_6 a0_7 a0_8 a0_9 a0_10 a0_11 _ _ l0_12 a0_0 a0_1 a0_2 a0_3 a0_4 a0_5 a0_6 a0_7 a0_8 a0_9 a0_10 a0_11 _ _ l0_12 false _ ?side1 ?side2 ?side3 ?side4 A72.out).mono ?_); (case side1 => repeat (first | exact (Kd.C_below HR0_12.out HB.out) | (with_reducible refine Kd.C_alloc ?_ _) | (with_reducible refine Kd.C_drewN ?_ _) | (with_reducible refine Kd.C_drew ?_))); (case side2 => exact HC0_12.out); (case side3 => repeat (first | exact (Kd.C_below HR0_12.out HB.out) | (with_reducible refine Kd.C_alloc ?_ _) | (with_reducible refine Kd.C_drewN ?_ _) | (with_reducible refine Kd.C_drew ?_))); (case side4 => exact HC0_12.out); rintro e w111 ⟨rfl, hb⟩; have n0_ := Aside0.mk (blk_below (g := gb105) (o := .cells #[.int .i64 a0_0, .int .i64 a0_1, .int .i64 a0_2, .int .i64 a0_3, .int .i64 a0_4, .int .i64 a0_5, .int .u64 a0_6, .int .u64 a0_7, .int .i64 a0_8, .int .i64 a0_9, .bool a0_10, .int .u64 a0_11, .slice A0_12 l0_12.length c0_12] 31 (0, 0)) (by (with_reducible repeat (first | refine blk_drewN ?_ _ | refine blk_drew ?_ | refine blk_alloc ?_ _)); exact BK105.out) hb); have n1_ := Aside0.mk (blk_below (g := gb106) (o := .cells #[.int .i64 a1_0, .int .i64 a1_1, .int .i64 a1_2, .int .i64 a1_3, .int .i64 a1_4, .int .i64 a1_5, .int .u64 a1_6, .int .u64 a1_7, .int .i64 a1_8, .int .i64 a1_9, .bool a1_10, .int .u64 a1_11, .slice A1_12 l1_12.length c1_12] 31 (0, 0)) (by (with_reducible repeat (first | refine blk_drewN ?_ _ | refine blk_drew ?_ | refine blk_alloc ?_ _)); exact BK106.out) hb); have n2_ := Aside0.mk (blk_below (g := gb107) (o := .cells #[.int .i64 a2_0, .int .i64 a2_1, .int .i64 a2_2, .int .i64 a2_3, .int .i64 a2_4, .int .i64 a2_5, .int .u64 a2_6, .int .u64 a2_7, .int .i64 a2_8, .int .i64 a2_9, .bool a2_10, .int .u64 a2_11, .slice A2_12 l2_12.length c2_12] 31 (0, 0)) (by (with_reducible repeat (first | refine blk_drewN ?_ _ | refine blk_drew ?_ | refine blk_alloc ?_ _)); exact BK107.out) hb); have n3_ := Aside0.mk (below_step (by repeat (first | (with_reducible first | exact HB.out | apply below_alloc | apply pw_below_drewN | apply below_drew1 | refine below_set ?_ GE105.out | refine below_set ?_ GE106.out | refine below_set ?_ GE107.out) | exact HB.out)) hb); clear BK105; clear BK106; clear BK107; clear HB; have BK105 := n0_; have BK106 := n1_; have BK107 := n2_; have HB := n3_; clear n0_ n1_ n2_ n3_; (try clear hb); (try clear hb2); (try clear hk); (try clear hi)))
                    go_ret
                    exact ⟨by first | rfl | (simp [errW_none, errW_some] <;> rfl) | (simp [*, errW_none, errW_some] <;> rfl), by repeat (first | (with_reducible first | exact HB.out | apply below_alloc | apply pw_below_drewN | apply below_drew1 | refine below_set ?_ GE105.out | refine below_set ?_ GE106.out | refine below_set ?_ GE107.out) | exact HB.out)⟩
            · replace c60 := Bool.eq_false_iff.mpr c60
              subst c60
              have H1 : ((history_Before.f a0_0 a0_1 a0_2 a0_3 a0_4 a0_5 a0_6 a0_7 a0_8 a0_9 a0_10 a0_11 l0_12 a0_0 a0_1 a0_2 a0_3 a0_4 a0_5 a0_6 a0_7 a0_8 a0_9 a0_10 a0_11 l0_12).bind fun t116 => (if t116 = true then (some false) else (some true))) = some r := by rw [if_neg (show ¬ (false = true) by decide)] at H; exact H
              clear H
              have H := H1
              clear H1
              replace H := Option.bind_eq_some_iff.mp H
              obtain ⟨t116, A1120, H⟩ := H
              replace H : (if t116 = true then (some false) else (some true)) = some r := H
              have A112 := Aside0.mk A1120
              clear A1120
              by_cases c113 : t116 = true
              · subst c113
                have H1 : (some false) = some r := by rw [if_pos rfl] at H; exact H
                clear H
                have H := H1
                clear H1
                obtain rfl := Option.some.inj H
                have hnb114 := NB105_106.out
                have hnc114 := NB106_105.out
                have hnb115 := NB105_107.out
                have hnc115 := NB107_105.out
                have hcz116_0 : wc.cell? ⟨gb105, 0, none⟩ = some (.int .i64 a0_0) := (blk_cell BK105.out 0).trans rfl
                have hcz116_1 : wc.cell? ⟨gb105, 1, none⟩ = some (.int .i64 a0_1) := (blk_cell BK105.out 1).trans rfl
                have hcz116_2 : wc.cell? ⟨gb105, 2, none⟩ = some (.int .i64 a0_2) := (blk_cell BK105.out 2).trans rfl
                have hcz116_3 : wc.cell? ⟨gb105, 3, none⟩ = some (.int .i64 a0_3) := (blk_cell BK105.out 3).trans rfl
                have hcz116_4 : wc.cell? ⟨gb105, 4, none⟩ = some (.int .i64 a0_4) := (blk_cell BK105.out 4).trans rfl
                have hcz116_5 : wc.cell? ⟨gb105, 5, none⟩ = some (.int .i64 a0_5) := (blk_cell BK105.out 5).trans rfl
                have hcz116_6 : wc.cell? ⟨gb105, 6, none⟩ = some (.int .u64 a0_6) := (blk_cell BK105.out 6).trans rfl
                have hcz116_7 : wc.cell? ⟨gb105, 7, none⟩ = some (.int .u64 a0_7) := (blk_cell BK105.out 7).trans rfl
                have hcz116_8 : wc.cell? ⟨gb105, 8, none⟩ = some (.int .i64 a0_8) := (blk_cell BK105.out 8).trans rfl
                have hcz116_9 : wc.cell? ⟨gb105, 9, none⟩ = some (.int .i64 a0_9) := (blk_cell BK105.out 9).trans rfl
                have hcz116_10 : wc.cell? ⟨gb105, 10, none⟩ = some (.bool a0_10) := (blk_cell BK105.out 10).trans rfl
                have hcz116_11 : wc.cell? ⟨gb105, 11, none⟩ = some (.int .u64 a0_11) := (blk_cell BK105.out 11).trans rfl
                have hcz116_12 : wc.cell? ⟨gb105, 12, none⟩ = some (.slice A0_12 l0_12.length c0_12) := (blk_cell BK105.out 12).trans rfl
                have hfz116_0 := blk_frozen BK105.out 0
                have hfz116_1 := blk_frozen BK105.out 1
                have hfz116_2 := blk_frozen BK105.out 2
                have hfz116_3 := blk_frozen BK105.out 3
                have hfz116_4 := blk_frozen BK105.out 4
                have hfz116_5 := blk_frozen BK105.out 5
                have hfz116_6 := blk_frozen BK105.out 6
                have hfz116_7 := blk_frozen BK105.out 7
                have hfz116_8 := blk_frozen BK105.out 8
                have hfz116_9 := blk_frozen BK105.out 9
                have hfz116_10 := blk_frozen BK105.out 10
                have hfz116_11 := blk_frozen BK105.out 11
                have hfz116_12 := blk_frozen BK105.out 12
                have hnb117 := NB106_107.out
                have hnc117 := NB107_106.out
                have hcz118_0 : wc.cell? ⟨gb106, 0, none⟩ = some (.int .i64 a1_0) := (blk_cell BK106.out 0).trans rfl
                have hcz118_1 : wc.cell? ⟨gb106, 1, none⟩ = some (.int .i64 a1_1) := (blk_cell BK106.out 1).trans rfl
                have hcz118_2 : wc.cell? ⟨gb106, 2, none⟩ = some (.int .i64 a1_2) := (blk_cell BK106.out 2).trans rfl
                have hcz118_3 : wc.cell? ⟨gb106, 3, none⟩ = some (.int .i64 a1_3) := (blk_cell BK106.out 3).trans rfl
                have hcz118_4 : wc.cell? ⟨gb106, 4, none⟩ = some (.int .i64 a1_4) := (blk_cell BK106.out 4).trans rfl
                have hcz118_5 : wc.cell? ⟨gb106, 5, none⟩ = some (.int .i64 a1_5) := (blk_cell BK106.out 5).trans rfl
                have hcz118_6 : wc.cell? ⟨gb106, 6, none⟩ = some (.int .u64 a1_6) := (blk_cell BK106.out 6).trans rfl
                have hcz118_7 : wc.cell? ⟨gb106, 7, none⟩ = some (.int .u64 a1_7) := (blk_cell BK106.out 7).trans rfl
                have hcz118_8 : wc.cell? ⟨gb106, 8, none⟩ = some (.int .i64 a1_8) := (blk_cell BK106.out 8).trans rfl
                have hcz118_9 : wc.cell? ⟨gb106, 9, none⟩ = some (.int .i64 a1_9) := (blk_cell BK106.out 9).trans rfl
                have hcz118_10 : wc.cell? ⟨gb106, 10, none⟩ = some (.bool a1_10) := (blk_cell BK106.out 10).trans rfl
                have hcz118_11 : wc.cell? ⟨gb106, 11, none⟩ = some (.int .u64 a1_11) := (blk_cell BK106.out 11).trans rfl
                have hcz118_12 : wc.cell? ⟨gb106, 12, none⟩ = some (.slice A1_12 l1_12.length c1_12) := (blk_cell BK106.out 12).trans rfl
                have hfz118_0 := blk_frozen BK106.out 0
                have hfz118_1 := blk_frozen BK106.out 1
                have hfz118_2 := blk_frozen BK106.out 2
                have hfz118_3 := blk_frozen BK106.out 3
                have hfz118_4 := blk_frozen BK106.out 4
                have hfz118_5 := blk_frozen BK106.out 5
                have hfz118_6 := blk_frozen BK106.out 6
                have hfz118_7 := blk_frozen BK106.out 7
                have hfz118_8 := blk_frozen BK106.out 8
                have hfz118_9 := blk_frozen BK106.out 9
                have hfz118_10 := blk_frozen BK106.out 10
                have hfz118_11 := blk_frozen BK106.out 11
                have hfz118_12 := blk_frozen BK106.out 12
                go_wp2_with (first | (go_at_call 20; (with_reducible refine (corrieref19_Before.calls a0_0 a0_1 a0_2 a0_3 a0_4 a0_5 a0_6 a0_7 a0_8 a0_9 a0_10 a0_11 _ _ l0_12 a1_0 a1_1 a1_2 a1_3 a1_4 a1_5 a1_6 a1_7 a1_8 a1_9 a1_10 a1_11 _ _ l1_12 t112 _ ?side1 ?side2 ?side3 ?side4 A58.out).mono ?_); (case side1 => repeat (first | exact (Kd.C_below HR0_12.out HB.out) | (with_reducible refine Kd.C_alloc ?_ _) | (with_reducible refine Kd.C_drewN ?_ _) | (with_reducible refine Kd.C_drew ?_))); (case side2 => exact HC0_12.out); (case side3 => repeat (first | exact (Kd.C_below HR1_12.out HB.out) | (with_reducible refine Kd.C_alloc ?_ _) | (with_reducible refine Kd.C_drewN ?_ _) | (with_reducible refine Kd.C_drew ?_))); (case side4 => exact HC1_12.out); rintro e w119 ⟨rfl, hb⟩; have n0_ := Aside0.mk (blk_below (g := gb105) (o := .cells #[.int .i64 a0_0, .int .i64 a0_1, .int .i64 a0_2, .int .i64 a0_3, .int .i64 a0_4, .int .i64 a0_5, .int .u64 a0_6, .int .u64 a0_7, .int .i64 a0_8, .int .i64 a0_9, .bool a0_10, .int .u64 a0_11, .slice A0_12 l0_12.length c0_12] 31 (0, 0)) (by (with_reducible repeat (first | refine blk_drewN ?_ _ | refine blk_drew ?_ | refine blk_alloc ?_ _)); exact BK105.out) hb); have n1_ := Aside0.mk (blk_below (g := gb106) (o := .cells #[.int .i64 a1_0, .int .i64 a1_1, .int .i64 a1_2, .int .i64 a1_3, .int .i64 a1_4, .int .i64 a1_5, .int .u64 a1_6, .int .u64 a1_7, .int .i64 a1_8, .int .i64 a1_9, .bool a1_10, .int .u64 a1_11, .slice A1_12 l1_12.length c1_12] 31 (0, 0)) (by (with_reducible repeat (first | refine blk_drewN ?_ _ | refine blk_drew ?_ | refine blk_alloc ?_ _)); exact BK106.out) hb); have n2_ := Aside0.mk (blk_below (g := gb107) (o := .cells #[.int .i64 a2_0, .int .i64 a2_1, .int .i64 a2_2, .int .i64 a2_3, .int .i64 a2_4, .int .i64 a2_5, .int .u64 a2_6, .int .u64 a2_7, .int .i64 a2_8, .int .i64 a2_9, .bool a2_10, .int .u64 a2_11, .slice A2_12 l2_12.length c2_12] 31 (0, 0)) (by (with_reducible repeat (first | refine blk_drewN ?_ _ | refine blk_drew ?_ | refine blk_alloc ?_ _)); exact BK107.out) hb); have n3_ := Aside0.mk (below_step (by repeat (first | (with_reducible first | exact HB.out | apply below_alloc | apply pw_below_drewN | apply below_drew1 | refine below_set ?_ GE105.out | refine below_set ?_ GE106.out | refine below_set ?_ GE107.out) | exact HB.out)) hb); clear BK105; clear BK106; clear BK107; clear HB; have BK105 := n0_; have BK106 := n1_; have BK107 := n2_; have HB := n3_; clear n0_ n1_ n2_ n3_; (try clear hb); (try clear hb2); (try clear hk); (try clear hi); have hcz120_0 : w119.cell? ⟨gb105, 0, none⟩ = some (.int .i64 a0_0) := (blk_cell BK105.out 0).trans rfl; have hcz120_1 : w119.cell? ⟨gb105, 1, none⟩ = some (.int .i64 a0_1) := (blk_cell BK105.out 1).trans rfl; have hcz120_2 : w119.cell? ⟨gb105, 2, none⟩ = some (.int .i64 a0_2) := (blk_cell BK105.out 2).trans rfl; have hcz120_3 : w119.cell? ⟨gb105, 3, none⟩ = some (.int .i64 a0_3) := (blk_cell BK105.out 3).trans rfl; have hcz120_4 : w119.cell? ⟨gb105, 4, none⟩ = some (.int .i64 a0_4) := (blk_cell BK105.out 4).trans rfl; have hcz120_5 : w119.cell? ⟨gb105, 5, none⟩ = some (.int .i64 a0_5) := (blk_cell BK105.out 5).trans rfl; have hcz120_6 : w119.cell? ⟨gb105, 6, none⟩ = some (.int .u64 a0_6) := (blk_cell BK105.out 6).trans rfl; have hcz120_7 : w119.cell? ⟨gb105, 7, none⟩ = some (.int .u64 a0_7) := (blk_cell BK105.out 7).trans rfl; have hcz120_8 : w119.cell? ⟨gb105, 8, none⟩ = some (.int .i64 a0_8) := (blk_cell BK105.out 8).trans rfl; have hcz120_9 : w119.cell? ⟨gb105, 9, none⟩ = some (.int .i64 a0_9) := (blk_cell BK105.out 9).trans rfl; have hcz120_10 : w119.cell? ⟨gb105, 10, none⟩ = some (.bool a0_10) := (blk_cell BK105.out 10).trans rfl; have hcz120_11 : w119.cell? ⟨gb105, 11, none⟩ = some (.int .u64 a0_11) := (blk_cell BK105.out 11).trans rfl; have hcz120_12 : w119.cell? ⟨gb105, 12, none⟩ = some (.slice A0_12 l0_12.length c0_12) := (blk_cell BK105.out 12).trans rfl; have hfz120_0 := blk_frozen BK105.out 0; have hfz120_1 := blk_frozen BK105.out 1; have hfz120_2 := blk_frozen BK105.out 2; have hfz120_3 := blk_frozen BK105.out 3; have hfz120_4 := blk_frozen BK105.out 4; have hfz120_5 := blk_frozen BK105.out 5; have hfz120_6 := blk_frozen BK105.out 6; have hfz120_7 := blk_frozen BK105.out 7; have hfz120_8 := blk_frozen BK105.out 8; have hfz120_9 := blk_frozen BK105.out 9; have hfz120_10 := blk_frozen BK105.out 10; have hfz120_11 := blk_frozen BK105.out 11; have hfz120_12 := blk_frozen BK105.out 12) | (go_at_call 19; (with_reducible refine (history_Before.calls a0_0 a0_1 a0_2 a0_3 a0_4 a0_5 a0_6 a0_7 a0_8 a0_9 a0_10 a0_11 _ _ l0_12 a0_0 a0_1 a0_2 a0_3 a0_4 a0_5 a0_6 a0_7 a0_8 a0_9 a0_10 a0_11 _ _ l0_12 true _ ?side1 ?side2 ?side3 ?side4 A112.out).mono ?_); (case side1 => repeat (first | exact (Kd.C_below HR0_12.out HB.out) | (with_reducible refine Kd.C_alloc ?_ _) | (with_reducible refine Kd.C_drewN ?_ _) | (with_reducible refine Kd.C_drew ?_))); (case side2 => exact HC0_12.out); (case side3 => repeat (first | exact (Kd.C_below HR0_12.out HB.out) | (with_reducible refine Kd.C_alloc ?_ _) | (with_reducible refine Kd.C_drewN ?_ _) | (with_reducible refine Kd.C_drew ?_))); (case side4 => exact HC0_12.out); rintro e w121 ⟨rfl, hb⟩; have n0_ := Aside0.mk (blk_below (g := gb105) (o := .cells #[.int .i64 a0_0, .int .i64 a0_1, .int .i64 a0_2, .int .i64 a0_3, .int .i64 a0_4, .int .i64 a0_5, .int .u64 a0_6, .int .u64 a0_7, .int .i64 a0_8, .int .i64 a0_9, .bool a0_10, .int .u64 a0_11, .slice A0_12 l0_12.length c0_12] 31 (0, 0)) (by (with_reducible repeat (first | refine blk_drewN ?_ _ | refine blk_drew ?_ | refine blk_alloc ?_ _)); exact BK105.out) hb); have n1_ := Aside0.mk (blk_below (g := gb106) (o := .cells #[.int .i64 a1_0, .int .i64 a1_1, .int .i64 a1_2, .int .i64 a1_3, .int .i64 a1_4, .int .i64 a1_5, .int .u64 a1_6, .int .u64 a1_7, .int .i64 a1_8, .int .i64 a1_9, .bool a1_10, .int .u64 a1_11, .slice A1_12 l1_12.length c1_12] 31 (0, 0)) (by (with_reducible repeat (first | refine blk_drewN ?_ _ | refine blk_drew ?_ | refine blk_alloc ?_ _)); exact BK106.out) hb); have n2_ := Aside0.mk (blk_below (g := gb107) (o := .cells #[.int .i64 a2_0, .int .i64 a2_1, .int .i64 a2_2, .int .i64 a2_3, .int .i64 a2_4, .int .i64 a2_5, .int .u64 a2_6, .int .u64 a2_7, .int .i64 a2_8, .int .i64 a2_9, .bool a2_10, .int .u64 a2_11, .slice A2_12 l2_12.length c2_12] 31 (0, 0)) (by (with_reducible repeat (first | refine blk_drewN ?_ _ | refine blk_drew ?_ | refine blk_alloc ?_ _)); exact BK107.out) hb); have n3_ := Aside0.mk (below_step (by repeat (first | (with_reducible first | exact HB.out | apply below_alloc | apply pw_below_drewN | apply below_drew1 | refine below_set ?_ GE105.out | refine below_set ?_ GE106.out | refine below_set ?_ GE107.out) | exact HB.out)) hb); clear BK105; clear BK106; clear BK107; clear HB; have BK105 := n0_; have BK106 := n1_; have BK107 := n2_; have HB := n3_; clear n0_ n1_ n2_ n3_; (try clear hb); (try clear hb2); (try clear hk); (try clear hi)))
                go_ret
                exact ⟨by first | rfl | (simp [errW_none, errW_some] <;> rfl) | (simp [*, errW_none, errW_some] <;> rfl), by repeat (first | (with_reducible first | exact HB.out | apply below_alloc | apply pw_below_drewN | apply below_drew1 | refine below_set ?_ GE105.out | refine below_set ?_ GE106.out | refine below_set ?_ GE107.out) | exact HB.out)⟩
              · replace c113 := Bool.eq_false_iff.mpr c113
                subst c113
                have H1 : (some true) = some r := by rw [if_neg (show ¬ (false = true) by decide)] at H; exact H
                clear H
                have H := H1
                clear H1
                obtain rfl := Option.some.inj H
                have hnb122 := NB105_106.out
                have hnc122 := NB106_105.out
                have hnb123 := NB105_107.out
                have hnc123 := NB107_105.out
                have hcz124_0 : wc.cell? ⟨gb105, 0, none⟩ = some (.int .i64 a0_0) := (blk_cell BK105.out 0).trans rfl
                have hcz124_1 : wc.cell? ⟨gb105, 1, none⟩ = some (.int .i64 a0_1) := (blk_cell BK105.out 1).trans rfl
                have hcz124_2 : wc.cell? ⟨gb105, 2, none⟩ = some (.int .i64 a0_2) := (blk_cell BK105.out 2).trans rfl
                have hcz124_3 : wc.cell? ⟨gb105, 3, none⟩ = some (.int .i64 a0_3) := (blk_cell BK105.out 3).trans rfl
                have hcz124_4 : wc.cell? ⟨gb105, 4, none⟩ = some (.int .i64 a0_4) := (blk_cell BK105.out 4).trans rfl
                have hcz124_5 : wc.cell? ⟨gb105, 5, none⟩ = some (.int .i64 a0_5) := (blk_cell BK105.out 5).trans rfl
                have hcz124_6 : wc.cell? ⟨gb105, 6, none⟩ = some (.int .u64 a0_6) := (blk_cell BK105.out 6).trans rfl
                have hcz124_7 : wc.cell? ⟨gb105, 7, none⟩ = some (.int .u64 a0_7) := (blk_cell BK105.out 7).trans rfl
                have hcz124_8 : wc.cell? ⟨gb105, 8, none⟩ = some (.int .i64 a0_8) := (blk_cell BK105.out 8).trans rfl
                have hcz124_9 : wc.cell? ⟨gb105, 9, none⟩ = some (.int .i64 a0_9) := (blk_cell BK105.out 9).trans rfl
                have hcz124_10 : wc.cell? ⟨gb105, 10, none⟩ = some (.bool a0_10) := (blk_cell BK105.out 10).trans rfl
                have hcz124_11 : wc.cell? ⟨gb105, 11, none⟩ = some (.int .u64 a0_11) := (blk_cell BK105.out 11).trans rfl
                have hcz124_12 : wc.cell? ⟨gb105, 12, none⟩ = some (.slice A0_12 l0_12.length c0_12) := (blk_cell BK105.out 12).trans rfl
                have hfz124_0 := blk_frozen BK105.out 0
                have hfz124_1 := blk_frozen BK105.out 1
                have hfz124_2 := blk_frozen BK105.out 2
                have hfz124_3 := blk_frozen BK105.out 3
                have hfz124_4 := blk_frozen BK105.out 4
                have hfz124_5 := blk_frozen BK105.out 5
                have hfz124_6 := blk_frozen BK105.out 6
                have hfz124_7 := blk_frozen BK105.out 7
                have hfz124_8 := blk_frozen BK105.out 8
                have hfz124_9 := blk_frozen BK105.out 9
                have hfz124_10 := blk_frozen BK105.out 10
                have hfz124_11 := blk_frozen BK105.out 11
                have hfz124_12 := blk_frozen BK105.out 12
                have hnb125 := NB106_107.out
                have hnc125 := NB107_106.out
                have hcz126_0 : wc.cell? ⟨gb106, 0, none⟩ = some (.int .i64 a1_0) := (blk_cell BK106.out 0).trans rfl
                have hcz126_1 : wc.cell? ⟨gb106, 1, none⟩ = some (.int .i64 a1_1) := (blk_cell BK106.out 1).trans rfl
                have hcz126_2 : wc.cell? ⟨gb106, 2, none⟩ = some (.int .i64 a1_2) := (blk_cell BK106.out 2).trans rfl
                have hcz126_3 : wc.cell? ⟨gb106, 3, none⟩ = some (.int .i64 a1_3) := (blk_cell BK106.out 3).trans rfl
                have hcz126_4 : wc.cell? ⟨gb106, 4, none⟩ = some (.int .i64 a1_4) := (blk_cell BK106.out 4).trans rfl
                have hcz126_5 : wc.cell? ⟨gb106, 5, none⟩ = some (.int .i64 a1_5) := (blk_cell BK106.out 5).trans rfl
                have hcz126_6 : wc.cell? ⟨gb106, 6, none⟩ = some (.int .u64 a1_6) := (blk_cell BK106.out 6).trans rfl
                have hcz126_7 : wc.cell? ⟨gb106, 7, none⟩ = some (.int .u64 a1_7) := (blk_cell BK106.out 7).trans rfl
                have hcz126_8 : wc.cell? ⟨gb106, 8, none⟩ = some (.int .i64 a1_8) := (blk_cell BK106.out 8).trans rfl
                have hcz126_9 : wc.cell? ⟨gb106, 9, none⟩ = some (.int .i64 a1_9) := (blk_cell BK106.out 9).trans rfl
                have hcz126_10 : wc.cell? ⟨gb106, 10, none⟩ = some (.bool a1_10) := (blk_cell BK106.out 10).trans rfl
                have hcz126_11 : wc.cell? ⟨gb106, 11, none⟩ = some (.int .u64 a1_11) := (blk_cell BK106.out 11).trans rfl
                have hcz126_12 : wc.cell? ⟨gb106, 12, none⟩ = some (.slice A1_12 l1_12.length c1_12) := (blk_cell BK106.out 12).trans rfl
                have hfz126_0 := blk_frozen BK106.out 0
                have hfz126_1 := blk_frozen BK106.out 1
                have hfz126_2 := blk_frozen BK106.out 2
                have hfz126_3 := blk_frozen BK106.out 3
                have hfz126_4 := blk_frozen BK106.out 4
                have hfz126_5 := blk_frozen BK106.out 5
                have hfz126_6 := blk_frozen BK106.out 6
                have hfz126_7 := blk_frozen BK106.out 7
                have hfz126_8 := blk_frozen BK106.out 8
                have hfz126_9 := blk_frozen BK106.out 9
                have hfz126_10 := blk_frozen BK106.out 10
                have hfz126_11 := blk_frozen BK106.out 11
                have hfz126_12 := blk_frozen BK106.out 12
                go_wp2_with (first | (go_at_call 20; (with_reducible refine (corrieref19_Before.calls a0_0 a0_1 a0_2 a0_3 a0_4 a0_5 a0_6 a0_7 a0_8 a0_9 a0_10 a0_11 _ _ l0_12 a1_0 a1_1 a1_2 a1_3 a1_4 a1_5 a1_6 a1_7 a1_8 a1_9 a1_10 a1_11 _ _ l1_12 t112 _ ?side1 ?side2 ?side3 ?side4 A58.out).mono ?_); (case side1 => repeat (first | exact (Kd.C_below HR0_12.out HB.out) | (with_reducible refine Kd.C_alloc ?_ _) | (with_reducible refine Kd.C_drewN ?_ _) | (with_reducible refine Kd.C_drew ?_))); (case side2 => exact HC0_12.out); (case side3 => repeat (first | exact (Kd.C_below HR1_12.out HB.out) | (with_reducible refine Kd.C_alloc ?_ _) | (with_reducible refine Kd.C_drewN ?_ _) | (with_reducible refine Kd.C_drew ?_))); (case side4 => exact HC1_12.out); rintro e w127 ⟨rfl, hb⟩; have n0_ := Aside0.mk (blk_below (g := gb105) (o := .cells #[.int .i64 a0_0, .int .i64 a0_1, .int .i64 a0_2, .int .i64 a0_3, .int .i64 a0_4, .int .i64 a0_5, .int .u64 a0_6, .int .u64 a0_7, .int .i64 a0_8, .int .i64 a0_9, .bool a0_10, .int .u64 a0_11, .slice A0_12 l0_12.length c0_12] 31 (0, 0)) (by (with_reducible repeat (first | refine blk_drewN ?_ _ | refine blk_drew ?_ | refine blk_alloc ?_ _)); exact BK105.out) hb); have n1_ := Aside0.mk (blk_below (g := gb106) (o := .cells #[.int .i64 a1_0, .int .i64 a1_1, .int .i64 a1_2, .int .i64 a1_3, .int .i64 a1_4, .int .i64 a1_5, .int .u64 a1_6, .int .u64 a1_7, .int .i64 a1_8, .int .i64 a1_9, .bool a1_10, .int .u64 a1_11, .slice A1_12 l1_12.length c1_12] 31 (0, 0)) (by (with_reducible repeat (first | refine blk_drewN ?_ _ | refine blk_drew ?_ | refine blk_alloc ?_ _)); exact BK106.out) hb); have n2_ := Aside0.mk (blk_below (g := gb107) (o := .cells #[.int .i64 a2_0, .int .i64 a2_1, .int .i64 a2_2, .int .i64 a2_3, .int .i64 a2_4, .int .i64 a2_5, .int .u64 a2_6, .int .u64 a2_7, .int .i64 a2_8, .int .i64 a2_9, .bool a2_10, .int .u64 a2_11, .slice A2_12 l2_12.length c2_12] 31 (0, 0)) (by (with_reducible repeat (first | refine blk_drewN ?_ _ | refine blk_drew ?_ | refine blk_alloc ?_ _)); exact BK107.out) hb); have n3_ := Aside0.mk (below_step (by repeat (first | (with_reducible first | exact HB.out | apply below_alloc | apply pw_below_drewN | apply below_drew1 | refine below_set ?_ GE105.out | refine below_set ?_ GE106.out | refine below_set ?_ GE107.out) | exact HB.out)) hb); clear BK105; clear BK106; clear BK107; clear HB; have BK105 := n0_; have BK106 := n1_; have BK107 := n2_; have HB := n3_; clear n0_ n1_ n2_ n3_; (try clear hb); (try clear hb2); (try clear hk); (try clear hi); have hcz128_0 : w127.cell? ⟨gb105, 0, none⟩ = some (.int .i64 a0_0) := (blk_cell BK105.out 0).trans rfl; have hcz128_1 : w127.cell? ⟨gb105, 1, none⟩ = some (.int .i64 a0_1) := (blk_cell BK105.out 1).trans rfl; have hcz128_2 : w127.cell? ⟨gb105, 2, none⟩ = some (.int .i64 a0_2) := (blk_cell BK105.out 2).trans rfl; have hcz128_3 : w127.cell? ⟨gb105, 3, none⟩ = some (.int .i64 a0_3) := (blk_cell BK105.out 3).trans rfl; have hcz128_4 : w127.cell? ⟨gb105, 4, none⟩ = some (.int .i64 a0_4) := (blk_cell BK105.out 4).trans rfl; have hcz128_5 : w127.cell? ⟨gb105, 5, none⟩ = some (.int .i64 a0_5) := (blk_cell BK105.out 5).trans rfl; have hcz128_6 : w127.cell? ⟨gb105, 6, none⟩ = some (.int .u64 a0_6) := (blk_cell BK105.out 6).trans rfl; have hcz128_7 : w127.cell? ⟨gb105, 7, none⟩ = some (.int .u64 a0_7) := (blk_cell BK105.out 7).trans rfl; have hcz128_8 : w127.cell? ⟨gb105, 8, none⟩ = some (.int .i64 a0_8) := (blk_cell BK105.out 8).trans rfl; have hcz128_9 : w127.cell? ⟨gb105, 9, none⟩ = some (.int .i64 a0_9) := (blk_cell BK105.out 9).trans rfl; have hcz128_10 : w127.cell? ⟨gb105, 10, none⟩ = some (.bool a0_10) := (blk_cell BK105.out 10).trans rfl; have hcz128_11 : w127.cell? ⟨gb105, 11, none⟩ = some (.int .u64 a0_11) := (blk_cell BK105.out 11).trans rfl; have hcz128_12 : w127.cell? ⟨gb105, 12, none⟩ = some (.slice A0_12 l0_12.length c0_12) := (blk_cell BK105.out 12).trans rfl; have hfz128_0 := blk_frozen BK105.out 0; have hfz128_1 := blk_frozen BK105.out 1; have hfz128_2 := blk_frozen BK105.out 2; have hfz128_3 := blk_frozen BK105.out 3; have hfz128_4 := blk_frozen BK105.out 4; have hfz128_5 := blk_frozen BK105.out 5; have hfz128_6 := blk_frozen BK105.out 6; have hfz128_7 := blk_frozen BK105.out 7; have hfz128_8 := blk_frozen BK105.out 8; have hfz128_9 := blk_frozen BK105.out 9; have hfz128_10 := blk_frozen BK105.out 10; have hfz128_11 := blk_frozen BK105.out 11; have hfz128_12 := blk_frozen BK105.out 12) | (go_at_call 19; (with_reducible refine (history_Before.calls a0_0 a0_1 a0_2 a0_3 a0_4 a0_5 a0_6 a0_7 a0_8 a0_9 a0_10 a0_11 _ _ l0_12 a0_0 a0_1 a0_2 a0_3 a0_4 a0_5 a0_6 a0_7 a0_8 a0_9 a0_10 a0_11 _ _ l0_12 false _ ?side1 ?side2 ?side3 ?side4 A112.out).mono ?_); (case side1 => repeat (first | exact (Kd.C_below HR0_12.out HB.out) | (with_reducible refine Kd.C_alloc ?_ _) | (with_reducible refine Kd.C_drewN ?_ _) | (with_reducible refine Kd.C_drew ?_))); (case side2 => exact HC0_12.out); (case side3 => repeat (first | exact (Kd.C_below HR0_12.out HB.out) | (with_reducible refine Kd.C_alloc ?_ _) | (with_reducible refine Kd.C_drewN ?_ _) | (with_reducible refine Kd.C_drew ?_))); (case side4 => exact HC0_12.out); rintro e w129 ⟨rfl, hb⟩; have n0_ := Aside0.mk (blk_below (g := gb105) (o := .cells #[.int .i64 a0_0, .int .i64 a0_1, .int .i64 a0_2, .int .i64 a0_3, .int .i64 a0_4, .int .i64 a0_5, .int .u64 a0_6, .int .u64 a0_7, .int .i64 a0_8, .int .i64 a0_9, .bool a0_10, .int .u64 a0_11, .slice A0_12 l0_12.length c0_12] 31 (0, 0)) (by (with_reducible repeat (first | refine blk_drewN ?_ _ | refine blk_drew ?_ | refine blk_alloc ?_ _)); exact BK105.out) hb); have n1_ := Aside0.mk (blk_below (g := gb106) (o := .cells #[.int .i64 a1_0, .int .i64 a1_1, .int .i64 a1_2, .int .i64 a1_3, .int .i64 a1_4, .int .i64 a1_5, .int .u64 a1_6, .int .u64 a1_7, .int .i64 a1_8, .int .i64 a1_9, .bool a1_10, .int .u64 a1_11, .slice A1_12 l1_12.length c1_12] 31 (0, 0)) (by (with_reducible repeat (first | refine blk_drewN ?_ _ | refine blk_drew ?_ | refine blk_alloc ?_ _)); exact BK106.out) hb); have n2_ := Aside0.mk (blk_below (g := gb107) (o := .cells #[.int .i64 a2_0, .int .i64 a2_1, .int .i64 a2_2, .int .i64 a2_3, .int .i64 a2_4, .int .i64 a2_5, .int .u64 a2_6, .int .u64 a2_7, .int .i64 a2_8, .int .i64 a2_9, .bool a2_10, .int .u64 a2_11, .slice A2_12 l2_12.length c2_12] 31 (0, 0)) (by (with_reducible repeat (first | refine blk_drewN ?_ _ | refine blk_drew ?_ | refine blk_alloc ?_ _)); exact BK107.out) hb); have n3_ := Aside0.mk (below_step (by repeat (first | (with_reducible first | exact HB.out | apply below_alloc | apply pw_below_drewN | apply below_drew1 | refine below_set ?_ GE105.out | refine below_set ?_ GE106.out | refine below_set ?_ GE107.out) | exact HB.out)) hb); clear BK105; clear BK106; clear BK107; clear HB; have BK105 := n0_; have BK106 := n1_; have BK107 := n2_; have HB := n3_; clear n0_ n1_ n2_ n3_; (try clear hb); (try clear hb2); (try clear hk); (try clear hi)))
                go_ret
                exact ⟨by first | rfl | (simp [errW_none, errW_some] <;> rfl) | (simp [*, errW_none, errW_some] <;> rfl), by repeat (first | (with_reducible first | exact HB.out | apply below_alloc | apply pw_below_drewN | apply below_drew1 | refine below_set ?_ GE105.out | refine below_set ?_ GE106.out | refine below_set ?_ GE107.out) | exact HB.out)⟩
          · rw [if_neg c59] at H
            have c59b0 : (t109 == t112) = false := by simpa using c59
            (try (have c59b1 : decide (t109 = t112) = false := by simpa using c59))
            (try (have c59b2 : (t109 == t112) = false := by simpa using c59))
            (try (have c59b3 : ¬ (t109 = t112) := by simpa using c59))
            clear c59
            obtain rfl := Option.some.inj H
            have hnb130 := NB105_106.out
            have hnc130 := NB106_105.out
            have hnb131 := NB105_107.out
            have hnc131 := NB107_105.out
            have hcz132_0 : wc.cell? ⟨gb105, 0, none⟩ = some (.int .i64 a0_0) := (blk_cell BK105.out 0).trans rfl
            have hcz132_1 : wc.cell? ⟨gb105, 1, none⟩ = some (.int .i64 a0_1) := (blk_cell BK105.out 1).trans rfl
            have hcz132_2 : wc.cell? ⟨gb105, 2, none⟩ = some (.int .i64 a0_2) := (blk_cell BK105.out 2).trans rfl
            have hcz132_3 : wc.cell? ⟨gb105, 3, none⟩ = some (.int .i64 a0_3) := (blk_cell BK105.out 3).trans rfl
            have hcz132_4 : wc.cell? ⟨gb105, 4, none⟩ = some (.int .i64 a0_4) := (blk_cell BK105.out 4).trans rfl
            have hcz132_5 : wc.cell? ⟨gb105, 5, none⟩ = some (.int .i64 a0_5) := (blk_cell BK105.out 5).trans rfl
            have hcz132_6 : wc.cell? ⟨gb105, 6, none⟩ = some (.int .u64 a0_6) := (blk_cell BK105.out 6).trans rfl
            have hcz132_7 : wc.cell? ⟨gb105, 7, none⟩ = some (.int .u64 a0_7) := (blk_cell BK105.out 7).trans rfl
            have hcz132_8 : wc.cell? ⟨gb105, 8, none⟩ = some (.int .i64 a0_8) := (blk_cell BK105.out 8).trans rfl
            have hcz132_9 : wc.cell? ⟨gb105, 9, none⟩ = some (.int .i64 a0_9) := (blk_cell BK105.out 9).trans rfl
            have hcz132_10 : wc.cell? ⟨gb105, 10, none⟩ = some (.bool a0_10) := (blk_cell BK105.out 10).trans rfl
            have hcz132_11 : wc.cell? ⟨gb105, 11, none⟩ = some (.int .u64 a0_11) := (blk_cell BK105.out 11).trans rfl
            have hcz132_12 : wc.cell? ⟨gb105, 12, none⟩ = some (.slice A0_12 l0_12.length c0_12) := (blk_cell BK105.out 12).trans rfl
            have hfz132_0 := blk_frozen BK105.out 0
            have hfz132_1 := blk_frozen BK105.out 1
            have hfz132_2 := blk_frozen BK105.out 2
            have hfz132_3 := blk_frozen BK105.out 3
            have hfz132_4 := blk_frozen BK105.out 4
            have hfz132_5 := blk_frozen BK105.out 5
            have hfz132_6 := blk_frozen BK105.out 6
            have hfz132_7 := blk_frozen BK105.out 7
            have hfz132_8 := blk_frozen BK105.out 8
            have hfz132_9 := blk_frozen BK105.out 9
            have hfz132_10 := blk_frozen BK105.out 10
            have hfz132_11 := blk_frozen BK105.out 11
            have hfz132_12 := blk_frozen BK105.out 12
            have hnb133 := NB106_107.out
            have hnc133 := NB107_106.out
            have hcz134_0 : wc.cell? ⟨gb106, 0, none⟩ = some (.int .i64 a1_0) := (blk_cell BK106.out 0).trans rfl
            have hcz134_1 : wc.cell? ⟨gb106, 1, none⟩ = some (.int .i64 a1_1) := (blk_cell BK106.out 1).trans rfl
            have hcz134_2 : wc.cell? ⟨gb106, 2, none⟩ = some (.int .i64 a1_2) := (blk_cell BK106.out 2).trans rfl
            have hcz134_3 : wc.cell? ⟨gb106, 3, none⟩ = some (.int .i64 a1_3) := (blk_cell BK106.out 3).trans rfl
            have hcz134_4 : wc.cell? ⟨gb106, 4, none⟩ = some (.int .i64 a1_4) := (blk_cell BK106.out 4).trans rfl
            have hcz134_5 : wc.cell? ⟨gb106, 5, none⟩ = some (.int .i64 a1_5) := (blk_cell BK106.out 5).trans rfl
            have hcz134_6 : wc.cell? ⟨gb106, 6, none⟩ = some (.int .u64 a1_6) := (blk_cell BK106.out 6).trans rfl
            have hcz134_7 : wc.cell? ⟨gb106, 7, none⟩ = some (.int .u64 a1_7) := (blk_cell BK106.out 7).trans rfl
            have hcz134_8 : wc.cell? ⟨gb106, 8, none⟩ = some (.int .i64 a1_8) := (blk_cell BK106.out 8).trans rfl
            have hcz134_9 : wc.cell? ⟨gb106, 9, none⟩ = some (.int .i64 a1_9) := (blk_cell BK106.out 9).trans rfl
            have hcz134_10 : wc.cell? ⟨gb106, 10, none⟩ = some (.bool a1_10) := (blk_cell BK106.out 10).trans rfl
            have hcz134_11 : wc.cell? ⟨gb106, 11, none⟩ = some (.int .u64 a1_11) := (blk_cell BK106.out 11).trans rfl
            have hcz134_12 : wc.cell? ⟨gb106, 12, none⟩ = some (.slice A1_12 l1_12.length c1_12) := (blk_cell BK106.out 12).trans rfl
            have hfz134_0 := blk_frozen BK106.out 0
            have hfz134_1 := blk_frozen BK106.out 1
            have hfz134_2 := blk_frozen BK106.out 2
            have hfz134_3 := blk_frozen BK106.out 3
            have hfz134_4 := blk_frozen BK106.out 4
            have hfz134_5 := blk_frozen BK106.out 5
            have hfz134_6 := blk_frozen BK106.out 6
            have hfz134_7 := blk_frozen BK106.out 7
            have hfz134_8 := blk_frozen BK106.out 8
            have hfz134_9 := blk_frozen BK106.out 9
            have hfz134_10 := blk_frozen BK106.out 10
            have hfz134_11 := blk_frozen BK106.out 11
            have hfz134_12 := blk_frozen BK106.out 12
            go_wp2_with (first | (go_at_call 20; (with_reducible refine (corrieref19_Before.calls a0_0 a0_1 a0_2 a0_3 a0_4 a0_5 a0_6 a0_7 a0_8 a0_9 a0_10 a0_11 _ _ l0_12 a1_0 a1_1 a1_2 a1_3 a1_4 a1_5 a1_6 a1_7 a1_8 a1_9 a1_10 a1_11 _ _ l1_12 t112 _ ?side1 ?side2 ?side3 ?side4 A58.out).mono ?_); (case side1 => repeat (first | exact (Kd.C_below HR0_12.out HB.out) | (with_reducible refine Kd.C_alloc ?_ _) | (with_reducible refine Kd.C_drewN ?_ _) | (with_reducible refine Kd.C_drew ?_))); (case side2 => exact HC0_12.out); (case side3 => repeat (first | exact (Kd.C_below HR1_12.out HB.out) | (with_reducible refine Kd.C_alloc ?_ _) | (with_reducible refine Kd.C_drewN ?_ _) | (with_reducible refine Kd.C_drew ?_))); (case side4 => exact HC1_12.out); rintro e w135 ⟨rfl, hb⟩; have n0_ := Aside0.mk (blk_below (g := gb105) (o := .cells #[.int .i64 a0_0, .int .i64 a0_1, .int .i64 a0_2, .int .i64 a0_3, .int .i64 a0_4, .int .i64 a0_5, .int .u64 a0_6, .int .u64 a0_7, .int .i64 a0_8, .int .i64 a0_9, .bool a0_10, .int .u64 a0_11, .slice A0_12 l0_12.length c0_12] 31 (0, 0)) (by (with_reducible repeat (first | refine blk_drewN ?_ _ | refine blk_drew ?_ | refine blk_alloc ?_ _)); exact BK105.out) hb); have n1_ := Aside0.mk (blk_below (g := gb106) (o := .cells #[.int .i64 a1_0, .int .i64 a1_1, .int .i64 a1_2, .int .i64 a1_3, .int .i64 a1_4, .int .i64 a1_5, .int .u64 a1_6, .int .u64 a1_7, .int .i64 a1_8, .int .i64 a1_9, .bool a1_10, .int .u64 a1_11, .slice A1_12 l1_12.length c1_12] 31 (0, 0)) (by (with_reducible repeat (first | refine blk_drewN ?_ _ | refine blk_drew ?_ | refine blk_alloc ?_ _)); exact BK106.out) hb); have n2_ := Aside0.mk (blk_below (g := gb107) (o := .cells #[.int .i64 a2_0, .int .i64 a2_1, .int .i64 a2_2, .int .i64 a2_3, .int .i64 a2_4, .int .i64 a2_5, .int .u64 a2_6, .int .u64 a2_7, .int .i64 a2_8, .int .i64 a2_9, .bool a2_10, .int .u64 a2_11, .slice A2_12 l2_12.length c2_12] 31 (0, 0)) (by (with_reducible repeat (first | refine blk_drewN ?_ _ | refine blk_drew ?_ | refine blk_alloc ?_ _)); exact BK107.out) hb); have n3_ := Aside0.mk (below_step (by repeat (first | (with_reducible first | exact HB.out | apply below_alloc | apply pw_below_drewN | apply below_drew1 | refine below_set ?_ GE105.out | refine below_set ?_ GE106.out | refine below_set ?_ GE107.out) | exact HB.out)) hb); clear BK105; clear BK106; clear BK107; clear HB; have BK105 := n0_; have BK106 := n1_; have BK107 := n2_; have HB := n3_; clear n0_ n1_ n2_ n3_; (try clear hb); (try clear hb2); (try clear hk); (try clear hi)))
            go_ret
            exact ⟨by first | rfl | (simp [errW_none, errW_some] <;> rfl) | (simp [*, errW_none, errW_some] <;> rfl), by repeat (first | (with_reducible first | exact HB.out | apply below_alloc | apply pw_below_drewN | apply below_drew1 | refine below_set ?_ GE105.out | refine below_set ?_ GE106.out | refine below_set ?_ GE107.out) | exact HB.out)⟩
        · replace c57 := Bool.eq_false_iff.mpr c57
          subst c57
          have H1 : (some false) = some r := by rw [if_neg (show ¬ (false = true) by decide)] at H; exact H
          clear H
          have H := H1
          clear H1
          obtain rfl := Option.some.inj H
          go_wp2
          go_ret
          exact ⟨by first | rfl | (simp [errW_none, errW_some] <;> rfl) | (simp [*, errW_none, errW_some] <;> rfl), by repeat (first | (with_reducible first | exact HB.out | apply below_alloc | apply pw_below_drewN | apply below_drew1 | refine below_set ?_ GE105.out | refine below_set ?_ GE106.out | refine below_set ?_ GE107.out) | exact HB.out)⟩

end Go.Proofs.Ytpcmoclohepdiad.PHistoryOrder
