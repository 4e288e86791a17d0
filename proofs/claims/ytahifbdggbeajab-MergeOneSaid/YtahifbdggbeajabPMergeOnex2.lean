-- Written by a program of this session: a variant of the print that takes proofs by hand (wip/tools/mkprint.py)
import Derived.Test.YtahifbdggbeajabPMergeOnex0
namespace Go.Proofs.Ytahifbdggbeajab.PMergeOne
open Go.RowKit Go.Proofs.YtahifbdggbeajabW.PrintWords Go.Proofs.YtahifbdggbeajabW.PrintLast Go.Proofs.YtahifbdggbeajabW.PrintMore
attribute [local go_sem] max2_int min2_int max_two min_two max_three min_three max_four min_four   -- for this text's walks alone
set_option linter.unusedVariables false
set_option linter.unusedSimpArgs false

-- NOT PRINTED: function 19 (api_Pair_19)

-- NOT PRINTED: function 17 (api_Pair_17)

/-! ### merge_Pairs: function 10 (by hand) -/
-- IMPORT Derived.RangeFuncNested
-- IMPORT Derived.RangeFuncBound
-- IMPORT Derived.RangeFuncCalls
-- IMPORT Derived.RangeFuncLeaves
-- IMPORT Derived.Shelf.Abstract
-- IMPORT Derived.Shelf.RegionOpen
-- IMPORT Derived.WalkKit
-- IMPORT Derived.OwnWalkIn
-- IMPORT Derived.TacticsInMore
-- IMPORT Derived.LoopNIn
-- IMPORT Derived.LoopIn
section
open Go.Shelf
-- chapter 17, part a: what merging is; the iterator
attribute [local go_sem] Oper.semAt_some
def pickS (s : Int × S32) (y : Nat × S32) : Int × S32 := if s.1 < 0 ∨ y.2.f0 < s.2.f0 then ((y.1 : Int), y.2) else s
def yl : List (List S32) → Nat → List (Nat × S32)
  | [], _ => []
  | l :: r, i => (match l with | [] => [] | x :: _ => [(i, x)]) ++ yl r (i + 1)
def stf (pre : List (Nat × S32)) : Int × S32 := pre.foldl pickS (-1, z32)
def rests (lists : List (List S32)) (at_ : List Nat) : List (List S32) := List.zipWith (fun l a => l.drop a) lists at_
def encY (y : Nat × S32) : Array Value := #[.int .i64 (y.1 : Int), .agg #[.int .u64 y.2.f0, .int .u64 y.2.f1]]
theorem yl_append (l r : List (List S32)) (i : Nat) : yl (l ++ r) i = yl l i ++ yl r (i + l.length) := by
  induction l generalizing i with
  | nil => simp [yl]
  | cons x t ih => simp [yl, ih, Nat.add_assoc, Nat.add_comm 1]
theorem yl_len (l : List (List S32)) (i : Nat) : (yl l i).length ≤ l.length := by
  induction l generalizing i with
  | nil => simp [yl]
  | cons x t ih =>
    have := ih (i + 1)
    cases x <;> simp [yl] <;> omega
theorem rests_get (lists : List (List S32)) (at_ : List Nat) (j : Nat) (h1 : j < lists.length) (h2 : j < at_.length) : (rests lists at_)[j]? = some ((lists[j]).drop at_[j]) := by
  unfold rests
  rw [List.getElem?_zipWith, List.getElem?_eq_getElem h1, List.getElem?_eq_getElem h2]
theorem rests_len (lists : List (List S32)) (at_ : List Nat) (h : at_.length = lists.length) : (rests lists at_).length = lists.length := by
  unfold rests
  rw [List.length_zipWith, h, Nat.min_self]
/-- one list more: what it yields -/
theorem yl_take (lists : List (List S32)) (at_ : List Nat) (ha : at_.length = lists.length) (j : Nat) (hj : j < lists.length) :
    yl ((rests lists at_).take (j + 1)) 0 = yl ((rests lists at_).take j) 0 ++ (match (lists[j]).drop (at_[j]'(by omega)) with | [] => [] | x :: _ => [(j, x)]) := by
  have hl := rests_len lists at_ ha
  rw [List.take_add_one, rests_get lists at_ j hj (by omega), yl_append, List.length_take, Nat.min_eq_left (by omega), Nat.zero_add]
  simp [yl]
theorem yl_take_off (lists : List (List S32)) (at_ : List Nat) (ha : at_.length = lists.length) (j : Nat) (hj : j < lists.length) (hc : ¬ at_[j]'(by omega) < (lists[j]).length) :
    yl ((rests lists at_).take (j + 1)) 0 = yl ((rests lists at_).take j) 0 := by
  rw [yl_take lists at_ ha j hj, List.drop_eq_nil_of_le (by omega)]
  simp
theorem yl_take_on (lists : List (List S32)) (at_ : List Nat) (ha : at_.length = lists.length) (j : Nat) (hj : j < lists.length) (hc : at_[j]'(by omega) < (lists[j]).length) :
    yl ((rests lists at_).take (j + 1)) 0 = yl ((rests lists at_).take j) 0 ++ [(j, (lists[j])[at_[j]'(by omega)])] := by
  rw [yl_take lists at_ ha j hj, List.drop_eq_getElem_cons hc]
def nat64 (at_ : List Nat) : Array Value := (at_.map (fun a : Nat => Value.int .i64 (a : Int))).toArray
set_option maxRecDepth 100000 in
set_option maxHeartbeats 4000000 in
/-- left's closure: it hands yield the heads of what is left, list by list -/
theorem left1_in (n : Nat) (hn : 1 ≤ n) (l bl ba gt N : Nat) (A : Option Addr) (c : Nat) (lists : List (List S32)) (at_ : List Nat) (ha : at_.length = lists.length) (hb : ∀ (j : Nat) (h : j < at_.length), at_[j] ≤ 9223372036854775807) (S : Nat → Prop) (hLL : lists.length ≤ 10000) (hS : ∀ k, S k → N ≤ k) (hbl : ¬ S bl) (hba : ¬ S ba) (hgt : ¬ S gt)
    (J Jx : List (Nat × S32) → World → Prop)
    (hY : ∀ pre x W, J pre W → pre.length < lists.length → YieldAt Fence.wide (n - 1) Try.prog l (encY x) W fun e W' =>
      (e = .returned (.bool true) ∧ J (pre ++ [x]) W' ∧ (Kept W W' S ∧ Below N W W')) ∨ (e = .returned (.bool false) ∧ Jx (pre ++ [x]) W'))
    (w0 W : World) (h0N : N = w0.heap.size) (hC : Kd.C (Kd.slice 32 k32) w0 A lists.length lists) (hc : lists.length ≤ c) (hB : Below N w0 W)
    (hWl : W.heap[bl]? = some (.cells #[.slice A lists.length c] 22 (0, 0))) (hWa : W.heap[ba]? = some (.cells #[.slice (some ⟨gt, 0, none⟩) lists.length lists.length] 40 (0, 0))) (hWt : W.heap[gt]? = some (.cells (nat64 at_) 3 (0, 0)))
    (hJ0 : J [] W) :
    CallsIn Fence.wide n Try.prog 20 #[.func (.yield l) #[] #[], .pointer (some ⟨bl, 0, none⟩), .pointer (some ⟨ba, 0, none⟩)] W fun e W' => (∃ v, e = .returned v) ∧
      ((∃ ys, ys = yl (rests lists at_) 0 ∧ J ys W') ∨ (∃ pre, True ∧ Jx pre W')) := by
  refine callsIn_of_wp Try.func20 rfl trivial ?_ rfl
  simp only [Try.ntmps20, List.size_toArray, List.length_cons, List.length_nil, Nat.reduceAdd, Nat.reduceSub, Array.replicate_succ, Array.replicate_zero, List.push_toArray, List.append_toArray, List.nil_append, List.cons_append]
  have cl := (blk_cell hWl 0).trans rfl
  gi_wp2
  gi_loopw [8] (fun i wr => ∃ k : Nat, k ≤ lists.length ∧ i = .int .i64 k ∧ J (yl ((rests lists at_).take k) 0) wr ∧ Kept W wr S ∧ Below N w0 wr)
    (fun i _ => lists.length - (intOf i).toNat)
  case atStart => exact ⟨0, Nat.zero_le _, rfl, hJ0, Kept.refl _ _, hB⟩
  case round =>
    obtain ⟨k, hk, rfl, hJs, hKp, hBr⟩ := hrel
    have bA := blk_kept hWa hKp hba
    have bT := blk_kept hWt hKp hgt
    have bL := blk_kept hWl hKp hbl
    have ca := (blk_cell bA 0).trans rfl
    have cl1 := (blk_cell bL 0).trans rfl
    by_cases hlt : k < lists.length
    · have hka : k < at_.length := by omega
      have ct : wr.cell? ⟨gt, k, none⟩ = some (.int .i64 (at_[k] : Int)) := (blk_cell bT k).trans (by simp [nat64, hka])
      have hw1 : wrap64 ((k : Int) + 1) = ((k + 1 : Nat) : Int) := by unfold wrap64; omega
      have hltb : (k : Int) < (lists.length : Int) := by omega
      subst h0N
      obtain ⟨ad, A0, c0, e0, hx, hl0, hC0⟩ := at_L2 (Kd.C_below hC hBr) (k : Int) (by omega) (by omega)
      subst e0
      have hrd : rd_L2 lists (k : Int) = lists[k] := by unfold rd_L2; simp [List.getD, hlt]
      rw [hrd] at hx hl0 hC0
      simp only [Int.toNat_natCast] at hx
      by_cases hx1 : at_[k] < (lists[k]).length
      · have hx1b : (at_[k] : Int) < ((lists[k]).length : Int) := by omega
        obtain ⟨ad2, e2, hy0, hy1⟩ := at_T32 hC0 (at_[k] : Int) (by omega) hx1b
        subst e2
        have hrd2 : rd_T32 (lists[k]) (at_[k] : Int) = (lists[k])[at_[k]] := by unfold rd_T32; simp [List.getD, hx1]
        rw [hrd2] at hy0 hy1
        simp only [Int.toNat_natCast] at hy0 hy1
        have hlen : (yl ((rests lists at_).take k) 0).length < lists.length := by
          have h1 := yl_len ((rests lists at_).take k) 0
          have h2 := List.length_take_le k (rests lists at_)
          omega
        have hon := yl_take_on lists at_ ha k hlt hx1
        obtain ⟨fn, tmps, assign, body, hy, hR⟩ := hY _ (k, (lists[k])[at_[k]]) wr hJs hlen
        dsimp only [encY] at hy
        gi_wp2
        refine hR.mono ?_
        rintro e W3 (⟨rfl, hJ3, hk3, hb3⟩ | ⟨rfl, hJx3⟩)
        · gi_wp2
          go_roundw
          case rel => exact ⟨k + 1, by omega, by simp, by rw [hon]; exact hJ3, hKp.then_ hk3 (fun _ h => .inl h), hBr.trans hb3⟩
          case measure => simp [intOf]; omega
        · gi_wp2
          refine bodyPost_ret (results_none rfl _ _ _) rfl ?_
          exact ⟨⟨_, rfl⟩, .inr ⟨_, trivial, hJx3⟩⟩
      · have hx1b : ¬ (at_[k] : Int) < ((lists[k]).length : Int) := by omega
        have hoff := yl_take_off lists at_ ha k hlt hx1
        gi_wp2
        refine ⟨fun _ h => (by cases h), ?_⟩
        gi_wp2
        go_roundw
        case rel => exact ⟨k + 1, by omega, by simp, by rw [hoff]; exact hJs, hKp, hBr⟩
        case measure => simp [intOf]; omega
    · obtain rfl : k = lists.length := by omega
      gi_wp2
      go_end0
      exact ⟨⟨_, rfl⟩, .inl ⟨_, rfl, by rw [List.take_of_length_le (by rw [rests_len _ _ ha]; exact Nat.le_refl _)] at hJs; exact hJs⟩⟩
-- chapter 17, part b: left; the order; all's beginnings
attribute [local go_sem] Oper.semAt_some
set_option maxHeartbeats 1000000 in
theorem left_in (n : Nat) (A : Option Addr) (k c : Nat) (B : Option Addr) (m d : Nat) (w : World) :
    CallsIn Fence.wide n Try.prog 19 #[.slice A k c, .slice B m d] w fun e w' => e = .returned (.func (.func 20) #[] #[.pointer (some ⟨w.heap.size, 0, none⟩), .pointer (some ⟨w.heap.size + 1, 0, none⟩)]) ∧ w' = (w.alloc (.cells #[.slice A k c] 22)).alloc (.cells #[.slice B m d] 40) := by
  refine callsIn_of_wp Try.func19 rfl trivial ?_ rfl
  simp only [Try.ntmps19, List.size_toArray, List.length_cons, List.length_nil, Nat.reduceAdd, Nat.reduceSub, Array.replicate_succ, Array.replicate_zero, List.push_toArray, List.append_toArray, List.nil_append, List.cons_append]
  gi_wp2
  go_ret
  exact ⟨rfl, rfl⟩
theorem kp_putObj {w : World} {S : Nat → Prop} {N : Nat} (hN : N ≤ w.heap.size) (hS : ∀ k, w.heap.size ≤ k → S k) (W : World) (l : Nat) (o o' : Obj) (hl : w.heap.size ≤ l) (h : W.heap[l]? = some o) (h1 : o.isCells = false) (h2 : o.isWalk = false) :
    Kept W (W.putObj l o') S ∧ Below N W (W.putObj l o') :=
  ⟨Kept.of_grown (grownBy_putObj' W l o') (Kept.refl W S) (fun k e => by cases e; exact .inl (hS l hl)), belowK_b (w := w) hN W l o o' hl h h1 h2⟩
/-- the iterator's contract, in the law's form -/
theorem left_stops (n : Nat) (hn : 1 ≤ n) (bl ba gt N : Nat) (A : Option Addr) (c : Nat) (lists : List (List S32)) (at_ : List Nat) (ha : at_.length = lists.length) (hb : ∀ (j : Nat) (h : j < at_.length), at_[j] ≤ 9223372036854775807) (hLL : lists.length ≤ 10000) (S : Nat → Prop) (hS : ∀ k, S k → N ≤ k) (hbl : ¬ S bl) (hba : ¬ S ba) (hgt : ¬ S gt)
    (w0 wS : World) (h0N : N = w0.heap.size) (hC : Kd.C (Kd.slice 32 k32) w0 A lists.length lists) (hc : lists.length ≤ c) (hB : Below N w0 wS) (hNS : N ≤ wS.heap.size)
    (hWl : wS.heap[bl]? = some (.cells #[.slice A lists.length c] 22 (0, 0))) (hWa : wS.heap[ba]? = some (.cells #[.slice (some ⟨gt, 0, none⟩) lists.length lists.length] 40 (0, 0))) (hWt : wS.heap[gt]? = some (.cells (nat64 at_) 3 (0, 0))) :
    SeqStopsK Fence.wide n Try.prog 20 #[.pointer (some ⟨bl, 0, none⟩), .pointer (some ⟨ba, 0, none⟩)] encY (fun X Y => Kept X Y S ∧ Below N X Y) (fun ys => ys = yl (rests lists at_) 0) (fun _ => True) lists.length wS := fun l J Jx W hW _ _ hY h0 =>
  left1_in n hn l bl ba gt N A c lists at_ ha hb S hLL hS hbl hba hgt J Jx hY w0 W h0N hC hc (hB.trans (hW.mono hNS)) (blk_below hWl hW) (blk_below hWa hW) (blk_below hWt hW) h0
set_option maxHeartbeats 1000000 in
theorem less_law (x0 x1 y0 y1 : Int) (w : World) : Calls Try.prog 18 #[.agg #[.int .u64 x0, .int .u64 x1], .agg #[.int .u64 y0, .int .u64 y1]] w fun e w' => e = .returned (.bool (decide (x0 < y0))) ∧ Below w.heap.size w w' := by
  have HB := Aside0.mk (Below.refl w.heap.size w)
  go_enter Try.func18, Try.ntmps18
  go_wp2
  go_ret
  exact ⟨rfl, below_alloc (below_alloc HB.out _) _⟩
-- chapter 17, part c: all
attribute [local go_sem] Oper.semAt_some
def mgo : Nat → List (List S32) → List S32
  | 0, _ => []
  | n + 1, rest => if (stf (yl rest 0)).1 < 0 then [] else (stf (yl rest 0)).2 :: mgo n (rest.set (stf (yl rest 0)).1.toNat ((rest.getD (stf (yl rest 0)).1.toNat []).tail))
def flatP (l : List S32) : List Value := l.flatMap (fun x => [.int .u64 x.f0, .int .u64 x.f1])
def marks (Ds : List Nat) : List Deferred := Ds.map (fun D => { target := .collected D, args := #[] })
def slen : Value → Nat
  | .slice _ n _ => n
  | _ => 0
def nilOr (v : Value) (n : Nat) : Prop := (n = 0 ∧ v = .slice none 0 0) ∨ ∃ g cap, v = .slice (some ⟨g, 0, none⟩) n cap
structure AllAt (w w0 : World) (N gt b4 : Nat) (at_ : List Nat) (out : List S32) (vo : Value) (Ds : List Nat) : Prop where
  bT : w.heap[gt]? = some (.cells (nat64 at_) 3 (0, 0))
  b4 : w.heap[b4]? = some (.cells #[.func (.func 18) #[] #[]] 39 (0, 0))
  own : k32.R 32 w N (fun k_ => N ≤ k_) vo out
  ds : ∀ D ∈ Ds, N ≤ D ∧ w.heap[D]? = some (.deferred (some []))
  nd : Ds.Nodup
  bel : Below N w0 w
theorem madeNat (n : Nat) : madeCells #[Value.int .i64 0] n = nat64 (List.replicate n 0) := by
  apply Array.ext
  · simp [nat64, madeCells]
  · intro i h1 h2
    simp [nat64, madeCells, Nat.mod_one]
theorem m_put {w : World} {g i : Nat} {cs : Array Value} {t : TypeId} {fr : Nat × Nat} (h : w.heap[g]? = some (.cells cs t fr)) (v : Value) : (w.setCell ⟨g, i, none⟩ v).heap[g]? = some (.cells (cs.setIfInBounds i v) t fr) := by
  rw [setCell_eq_setRow w g i cs t fr v h]
  exact setRow_heap w g cs _ t fr h
theorem m_far {w : World} {g k i : Nat} {o : Obj} (h : w.heap[k]? = some o) (hne : k ≠ g) (v : Value) : (w.setCell ⟨g, i, none⟩ v).heap[k]? = some o := (Below.heap_setCell w ⟨g, i, none⟩ v k hne).trans h
theorem stf_snoc (pre : List (Nat × S32)) (x : Nat × S32) : stf (pre ++ [x]) = pickS (stf pre) x := by unfold stf; rw [List.foldl_append]; rfl
theorem all_stay {wS W W2 : World} {S : Nat → Prop} {N B b9 b10 : Nat} {p q0 q1 : Value} (hb : Below W.heap.size W W2) (hNW : N ≤ W.heap.size) (h9 : W.heap[b9]? = some (.cells #[p] 3 (0, 0))) (h10 : W.heap[b10]? = some (.cells #[q0, q1] 32 (0, 0))) (hK : Kept wS W S) (hB : Below N wS W) :
    KeepsFrom B W W2 ∧ (Kept W W2 S ∧ Below N W W2) ∧ W2.heap[b9]? = some (.cells #[p] 3 (0, 0)) ∧ W2.heap[b10]? = some (.cells #[q0, q1] 32 (0, 0)) ∧ Kept wS W2 S ∧ Below N wS W2 :=
  ⟨⟨hb.size, fun k o _ hk _ => blk_below hk hb⟩, ⟨Kept.of_below hb S, hb.mono hNW⟩, blk_below h9 hb, blk_below h10 hb, hK.below hb, hB.trans (hb.mono hNW)⟩
theorem all_put {wS W W2 : World} {S : Nat → Prop} {N B b9 b10 : Nat} {p q0 q1 : Value} (v a b : Value) (hb : Below W.heap.size W W2) (hNW : N ≤ W.heap.size) (h9 : W.heap[b9]? = some (.cells #[p] 3 (0, 0))) (h10 : W.heap[b10]? = some (.cells #[q0, q1] 32 (0, 0))) (hne : b9 ≠ b10) (hS9 : S b9) (hS10 : S b10) (hN9 : N ≤ b9) (hN10 : N ≤ b10) (hK : Kept wS W S) (hB : Below N wS W) :
    KeepsFrom B W (((W2.setCell ⟨b9, 0, none⟩ v).setCell ⟨b10, 0, none⟩ a).setCell ⟨b10, 1, none⟩ b).drew ∧
    (Kept W (((W2.setCell ⟨b9, 0, none⟩ v).setCell ⟨b10, 0, none⟩ a).setCell ⟨b10, 1, none⟩ b).drew S ∧ Below N W (((W2.setCell ⟨b9, 0, none⟩ v).setCell ⟨b10, 0, none⟩ a).setCell ⟨b10, 1, none⟩ b).drew) ∧
    (((W2.setCell ⟨b9, 0, none⟩ v).setCell ⟨b10, 0, none⟩ a).setCell ⟨b10, 1, none⟩ b).drew.heap[b9]? = some (.cells #[v] 3 (0, 0)) ∧ (((W2.setCell ⟨b9, 0, none⟩ v).setCell ⟨b10, 0, none⟩ a).setCell ⟨b10, 1, none⟩ b).drew.heap[b10]? = some (.cells #[a, b] 32 (0, 0)) ∧
    Kept wS (((W2.setCell ⟨b9, 0, none⟩ v).setCell ⟨b10, 0, none⟩ a).setCell ⟨b10, 1, none⟩ b).drew S ∧ Below N wS (((W2.setCell ⟨b9, 0, none⟩ v).setCell ⟨b10, 0, none⟩ a).setCell ⟨b10, 1, none⟩ b).drew := by
  obtain ⟨k1, ⟨k2, k3⟩, k4, k5, k6, k7⟩ := all_stay (B := B) hb hNW h9 h10 hK hB
  have s1 : KeepsFrom B W2 (((W2.setCell ⟨b9, 0, none⟩ v).setCell ⟨b10, 0, none⟩ a).setCell ⟨b10, 1, none⟩ b).drew := (((((KeepsOthers.setCell _ _ _).trans (KeepsOthers.setCell _ _ _)).trans (KeepsOthers.setCell _ _ _)).trans (KeepsOthers.drew _))).from _
  refine ⟨k1.trans s1, ⟨(((k2.setCell (p := ⟨b9, 0, none⟩) (.inl hS9) v).setCell (p := ⟨b10, 0, none⟩) (.inl hS10) a).setCell (p := ⟨b10, 1, none⟩) (.inl hS10) b).drew, (((k3.setCell (p := ⟨b9, 0, none⟩) hN9 v).setCell (p := ⟨b10, 0, none⟩) hN10 a).setCell (p := ⟨b10, 1, none⟩) hN10 b).drew⟩, ?_, ?_, (((k6.setCell (p := ⟨b9, 0, none⟩) (.inl hS9) v).setCell (p := ⟨b10, 0, none⟩) (.inl hS10) a).setCell (p := ⟨b10, 1, none⟩) (.inl hS10) b).drew, (((k7.setCell (p := ⟨b9, 0, none⟩) hN9 v).setCell (p := ⟨b10, 0, none⟩) hN10 a).setCell (p := ⟨b10, 1, none⟩) hN10 b).drew⟩
  · exact m_far (m_far (m_put k4 (i := 0) v) hne a) hne b
  · exact m_put (m_put (m_far k5 (Ne.symm hne) v) (i := 0) a) (i := 1) b
theorem pickS_or (s : Int × S32) (y : Nat × S32) : pickS s y = s ∨ pickS s y = ((y.1 : Int), y.2) := by
  unfold pickS
  split
  · exact .inr rfl
  · exact .inl rfl
theorem stf_mem (s : Int × S32) (pre : List (Nat × S32)) : pre.foldl pickS s = s ∨ ∃ y ∈ pre, pre.foldl pickS s = ((y.1 : Int), y.2) := by
  induction pre generalizing s with
  | nil => exact .inl rfl
  | cons y t ih =>
    rw [List.foldl_cons]
    rcases ih (pickS s y) with h | ⟨z, hz, h⟩
    · rcases pickS_or s y with h2 | h2
      · exact .inl (h.trans h2)
      · exact .inr ⟨y, List.mem_cons_self, h.trans h2⟩
    · exact .inr ⟨z, List.mem_cons_of_mem _ hz, h⟩
theorem yl_mem (l : List (List S32)) (i : Nat) (y : Nat × S32) (h : y ∈ yl l i) : i ≤ y.1 ∧ ∃ t, l[y.1 - i]? = some (y.2 :: t) := by
  induction l generalizing i with
  | nil => simp [yl] at h
  | cons x t ih =>
    unfold yl at h
    rcases List.mem_append.1 h with h | h
    · cases x with
      | nil => simp at h
      | cons a r =>
        simp at h
        subst h
        exact ⟨Nat.le_refl _, r, by simp⟩
    · obtain ⟨h1, r, h2⟩ := ih (i + 1) h
      refine ⟨by omega, r, ?_⟩
      rw [show y.1 - i = (y.1 - (i + 1)) + 1 from by omega, List.getElem?_cons_succ]
      exact h2
theorem pick_at (lists : List (List S32)) (at_ : List Nat) (ha : at_.length = lists.length) (h0 : ¬ (stf (yl (rests lists at_) 0)).1 < 0) :
    ∃ (j : Nat) (hj : j < lists.length), stf (yl (rests lists at_) 0) = ((j : Int), (lists[j]).getD (at_[j]'(by omega)) z32) ∧ at_[j]'(by omega) < (lists[j]).length := by
  rcases stf_mem (-1, z32) (yl (rests lists at_) 0) with h | ⟨y, hy, h⟩
  · exact absurd (show (stf (yl (rests lists at_) 0)).1 < 0 from by unfold stf; rw [h]; decide) h0
  · obtain ⟨_, t, h2⟩ := yl_mem _ _ _ hy
    rw [Nat.sub_zero] at h2
    have hlt : y.1 < (rests lists at_).length := (List.getElem?_eq_some_iff.1 h2).1
    rw [rests_len lists at_ ha] at hlt
    rw [rests_get lists at_ y.1 hlt (by omega)] at h2
    have h3 := Option.some.inj h2
    have hl : at_[y.1]'(by omega) < (lists[y.1]).length := by
      have := congrArg List.length h3
      rw [List.length_drop] at this
      simp at this
      omega
    refine ⟨y.1, hlt, ?_, hl⟩
    unfold stf
    rw [h]
    rw [List.drop_eq_getElem_cons hl] at h3
    injection h3 with h3
    rw [← h3]
    simp [List.getD, hl]
theorem rests_set (lists : List (List S32)) (at_ : List Nat) (ha : at_.length = lists.length) (j : Nat) (hj : j < at_.length) (hl : at_[j] < (lists[j]'(by omega)).length) :
    (rests lists at_)[j]? = some ((lists[j]'(by omega)).getD at_[j] z32 :: ((rests lists at_).getD j []).tail) ∧ rests lists (at_.set j (at_[j] + 1)) = (rests lists at_).set j (((rests lists at_).getD j []).tail) := by
  have hg := rests_get lists at_ j (by omega) hj
  have hgd : (rests lists at_).getD j [] = (lists[j]'(by omega)).drop at_[j] := by simp [List.getD, hg]
  have ht : ((lists[j]'(by omega)).drop at_[j]).tail = (lists[j]'(by omega)).drop (at_[j] + 1) := by rw [List.tail_drop]
  constructor
  · rw [hg, hgd, ht, List.drop_eq_getElem_cons hl]
    simp [List.getD, hl]
  · rw [hgd, ht]
    apply List.ext_getElem?
    intro i
    by_cases hi : i < lists.length
    · by_cases hij : i = j
      · subst hij
        rw [rests_get lists _ i hi (by simp; omega), List.getElem?_set_self (by rw [rests_len _ _ ha]; exact hi)]
        simp
      · rw [rests_get lists _ i hi (by simp; omega), List.getElem?_set_ne (Ne.symm hij), rests_get lists at_ i hi (by omega)]
        rw [List.getElem_set_ne (Ne.symm hij)]
    · rw [List.getElem?_eq_none (by rw [rests_len _ _ (by simpa using ha)]; omega), List.getElem?_eq_none (by rw [List.length_set, rests_len _ _ ha]; omega)]
theorem sum_set (l : List (List S32)) (j : Nat) (x : S32) (t : List S32) (h : l[j]? = some (x :: t)) : ((l.set j t).map List.length).sum + 1 = (l.map List.length).sum := by
  induction l generalizing j with
  | nil => simp at h
  | cons a r ih =>
    cases j with
    | zero =>
      simp at h
      subst h
      simp
      omega
    | succ j =>
      have := ih j (by simpa using h)
      simp
      simp at this
      omega
theorem nat64_set (at_ : List Nat) (j a : Nat) : (nat64 at_).setIfInBounds j (.int .i64 (a : Int)) = nat64 (at_.set j a) := by
  unfold nat64
  rw [List.map_set]
  simp
theorem len_le_sum (l : List (List S32)) (j : Nat) (h : j < l.length) : l[j].length ≤ (l.map List.length).sum := by
  induction l generalizing j with
  | nil => simp at h
  | cons a r ih =>
    cases j with
    | zero => simp
    | succ j =>
      have := ih j (by simpa using h)
      simp
      omega
theorem pw_size_setCell (w : World) (p : Addr) (v : Value) : (w.setCell p v).heap.size = w.heap.size := by simp
theorem nat64_set1 (at_ : List Nat) (j a : Nat) : (nat64 at_).setIfInBounds j (.int .i64 ((a : Int) + 1)) = nat64 (at_.set j (a + 1)) := nat64_set at_ j (a + 1)
theorem mgo_snoc {lim : Int} {lists rest : List (List S32)} {out : List S32} {j : Nat} {x : S32} (hlt : (out.length : Int) < lim) (hg : out ++ mgo (lim.toNat - out.length) rest = mgo lim.toNat lists) (hst : stf (yl rest 0) = ((j : Int), x)) :
    (out ++ [x]) ++ mgo (lim.toNat - (out ++ [x]).length) (rest.set j (rest.getD j []).tail) = mgo lim.toNat lists := by
  have e : lim.toNat - out.length = (lim.toNat - (out ++ [x]).length) + 1 := by simp; omega
  rw [← hg, e, mgo, hst, if_neg (show ¬ ((j : Int), x).1 < 0 from by simp)]
  simp
theorem k32_cells (x : S32) (w : World) (base : Nat) (ok : Nat → Prop) : k32.M w base ok x [.int .u64 x.f0, .int .u64 x.f1] := ⟨_, _, rfl, rfl, rfl⟩
theorem leave_marks {F : Fence} {n : Nat} {P : Program} {fn : Func} {tmps : Array Value} {R : Ending → World → Prop} {N : Nat} {vo : Value} {out : List S32} {w0 : World} : ∀ (Ds : List Nat) (w : World), Ds.Nodup → (∀ D ∈ Ds, N ≤ D ∧ w.heap[D]? = some (.deferred (some []))) → k32.R 32 w N (fun k_ => N ≤ k_) vo out → Below N w0 w → N = w0.heap.size →
    (∀ w', k32.R 32 w' N (fun k_ => N ≤ k_) vo out → Below N w0 w' → ∃ v, (results fn tmps).run P w' = .ok v w' ∧ R (.returned v) w') → LeavesInM F n P fn tmps R (marks Ds) .returning w := by
  intro Ds
  induction Ds with
  | nil =>
    intro w _ _ ho hb _ hK
    obtain ⟨v, h1, h2⟩ := hK w ho hb
    exact ⟨v, h1, h2⟩
  | cons D Ds ih =>
    intro w hnd hds ho hb hN hK
    obtain ⟨hD1, hD2⟩ := hds D List.mem_cons_self
    refine ⟨(by simp), .inl ⟨D, _, rfl, run_takeDeferred hD2, ?_⟩⟩
    obtain ⟨hn1, hn2⟩ := List.nodup_cons.1 hnd
    have far : ∀ k, k ≠ D → (w.putObj D (.deferred none)).heap[k]? = w.heap[k]? := fun k hk => World.putObj_heap_other hk
    exact ih _ hn2 (fun E hE => ⟨(hds E (List.mem_cons_of_mem _ hE)).1, (far E (fun e => hn1 (e ▸ hE))).trans (hds E (List.mem_cons_of_mem _ hE)).2⟩)
      (Kd.R_mono (Kd.R_step (Kd.R_bound ho) (fun k hk _ => far k (fun e => by obtain ⟨_, _, _, q, _, cells, hc⟩ := hk; rw [e, hD2] at hc; cases hc))) (fun _ hk => hk.1))
      (hb.trans (belowK_b (w := w0) (Nat.le_of_eq hN) w D _ _ (by omega) hD2 rfl rfl)) hN hK
def AllInv (w : World) (A : Option Addr) (c : Nat) (lists : List (List S32)) (lim : Int) (n : Nat) (a : Act) (w' : World) : Prop :=
  ∃ (at_ : List Nat) (out : List S32) (vo : Value) (Ds : List Nat), at_.length = lists.length ∧ (∀ (j : Nat) (h : j < at_.length), at_[j] ≤ 10000) ∧ ((rests lists at_).map List.length).sum = n ∧ out.length + n ≤ 10000 ∧
    out ++ mgo (lim.toNat - out.length) (rests lists at_) = mgo lim.toNat lists ∧ AllAt w' w w.heap.size (w.heap.size + 1) w.heap.size at_ out vo Ds ∧
    ∃ u9 u10 u11 u12 u13 u14 u15 u16 u17 u18 u19 u20 u21 u22 u23 u24 u25 u26 u27 u28 u29 u30 u31 u32 u33 u34 u35 u36 u37 u38 u39 u40 u41 u42 u43 u44 u45 u46 : Value, a = { tmps := #[.slice A lists.length c, .func (.func 18) #[] #[], .int .i64 lim, undef, .pointer (some ⟨w.heap.size, 0, none⟩), undef, .slice none 0 0, .slice (some ⟨w.heap.size + 1, 0, none⟩) lists.length lists.length, vo, u9, u10, u11, u12, u13, u14, u15, u16, u17, u18, u19, u20, u21, u22, u23, u24, u25, u26, u27, u28, u29, u30, u31, u32, u33, u34, u35, u36, u37, u38, u39, u40, u41, u42, u43, u44, u45, u46, undef], defers := marks Ds }
theorem rests_zero (lists : List (List S32)) : rests lists (List.replicate lists.length 0) = lists := by
  unfold rests
  induction lists with
  | nil => rfl
  | cons x t ih => simp only [List.length_cons, List.replicate_succ, List.zipWith_cons_cons, List.drop_zero, ih]
set_option maxHeartbeats 4000000 in
set_option maxRecDepth 100000 in
theorem all_law (w : World) (A : Option Addr) (c : Nat) (lists : List (List S32)) (lim : Int) (hC : Kd.C (Kd.slice 32 k32) w A lists.length lists) (hc : lists.length ≤ c) (hLL : lists.length ≤ 10000) (hT : (lists.map List.length).sum ≤ 10000) :
    Calls Try.prog 17 #[.slice A lists.length c, .func (.func 18) #[] #[], .int .i64 lim] w fun e w' => ∃ v, e = .returned v ∧ Kd.R k32 32 w' w.heap.size (fun k_ => w.heap.size ≤ k_) v (mgo lim.toNat lists) ∧ Below w.heap.size w w' := by
  refine (callsIn_wide (n := 3)).1 ?_
  refine callsIn_of_wp_marks Try.func17 rfl trivial ?_ rfl
  simp only [Try.ntmps17, List.size_toArray, List.length_cons, List.length_nil, Nat.reduceAdd, Nat.reduceSub, Array.replicate_succ, Array.replicate_zero, List.push_toArray, List.append_toArray, List.nil_append, List.cons_append]
  refine wpIn_wide.2 ?_
  have hmk := print_make (P := Try.prog) 40 3 .i64 8 Try.underlying40 (by kernel_rfl) (by decide) lists.length (by omega)
  go_wp2
  refine wp_loop_ghost (AllInv w A c lists lim) ((lists.map List.length).sum) ?_ ?_
  · refine ⟨List.replicate lists.length 0, [], .slice none 0 0, [], by simp, by simp, by rw [rests_zero], by simpa using hT, by rw [rests_zero]; simp, ?_, ?_⟩
    · refine ⟨?_, ?_, Kd.R_nil _ _ _ _ _, by simp, by simp, below_alloc (below_alloc (Below.refl _ _) _) _⟩
      · rw [← madeNat]
        have h := blk_new (w.alloc (.cells #[.func (.func 18) #[] #[]] 39)) (.cells (madeCells #[Value.int .i64 0] lists.length) 3)
        rw [World.size_alloc] at h
        exact h
      · exact blk_alloc (blk_new w _) _
    · (repeat apply Exists.intro)
      rfl
  · rintro n a wr ⟨at_, out, vo, Ds, ha, hb, hn, ho, hg, hA, u9, u10, u11, u12, u13, u14, u15, u16, u17, u18, u19, u20, u21, u22, u23, u24, u25, u26, u27, u28, u29, u30, u31, u32, u33, u34, u35, u36, u37, u38, u39, u40, u41, u42, u43, u44, u45, u46, rfl⟩
    obtain ⟨Av, cv, rfl⟩ := Kd.R_slice hA.own
    by_cases hlt : (out.length : Int) < lim
    · go_wp2_with (first | (go_at_call 19; (with_reducible refine (callsIn_wide.1 (left_in 3 A lists.length c (some ⟨w.heap.size + 1, 0, none⟩) lists.length lists.length _)).mono ?_); rintro e w5 ⟨rfl, rfl⟩))
      have hsz : w.heap.size + 2 ≤ wr.heap.size := by have := blk_lt hA.bT; omega
      obtain ⟨wS, hwS⟩ : ∃ W, (((wr.alloc (.cells #[.int .i64 (-1)] 3)).alloc (.cells #[.int .u64 0, .int .u64 0] 32)).alloc (.cells #[.slice A lists.length c] 22)).alloc (.cells #[.slice (some ⟨w.heap.size + 1, 0, none⟩) lists.length lists.length] 40) = W := ⟨_, rfl⟩
      rw [hwS]
      have hSz : wS.heap.size = wr.heap.size + 4 := by rw [← hwS]; simp
      have hBS : Below wr.heap.size wr wS := by rw [← hwS]; exact below_alloc (below_alloc (below_alloc (below_alloc (Below.refl _ _) _) _) _) _
      have e9 : wS.heap[wr.heap.size]? = some (.cells #[.int .i64 (-1)] 3 (0, 0)) := by rw [← hwS]; exact blk_alloc (blk_alloc (blk_alloc (blk_new wr _) _) _) _
      have e10 : wS.heap[wr.heap.size + 1]? = some (.cells #[.int .u64 0, .int .u64 0] 32 (0, 0)) := by
        have h := blk_new (wr.alloc (.cells #[.int .i64 (-1)] 3)) (.cells #[.int .u64 0, .int .u64 0] 32)
        rw [World.size_alloc] at h
        rw [← hwS]
        exact blk_alloc (blk_alloc h _) _
      have el : wS.heap[wr.heap.size + 1 + 1]? = some (.cells #[.slice A lists.length c] 22 (0, 0)) := by
        have h := blk_new ((wr.alloc (.cells #[.int .i64 (-1)] 3)).alloc (.cells #[.int .u64 0, .int .u64 0] 32)) (.cells #[.slice A lists.length c] 22)
        rw [World.size_alloc, World.size_alloc] at h
        rw [← hwS]
        exact blk_alloc h _
      have ea : wS.heap[wr.heap.size + 1 + 1 + 1]? = some (.cells #[.slice (some ⟨w.heap.size + 1, 0, none⟩) lists.length lists.length] 40 (0, 0)) := by
        have h := blk_new (((wr.alloc (.cells #[.int .i64 (-1)] 3)).alloc (.cells #[.int .u64 0, .int .u64 0] 32)).alloc (.cells #[.slice A lists.length c] 22)) (.cells #[.slice (some ⟨w.heap.size + 1, 0, none⟩) lists.length lists.length] 40)
        rw [World.size_alloc, World.size_alloc, World.size_alloc] at h
        rw [← hwS]
        exact h
      clear hwS
      obtain ⟨S, hSd⟩ : ∃ S : Nat → Prop, S = fun k => k = wr.heap.size ∨ k = wr.heap.size + 1 ∨ wS.heap.size ≤ k := ⟨_, rfl⟩
      have hS9 : ∀ k, S k ↔ (k = wr.heap.size ∨ k = wr.heap.size + 1 ∨ wS.heap.size ≤ k) := by intro k; rw [hSd]
      clear hSd
      have hNS : w.heap.size ≤ wS.heap.size := by omega
      have hBw : Below w.heap.size w wS := hA.bel.trans (hBS.mono (by omega))
      have et := blk_below hA.bT hBS
      have e4 := blk_below hA.b4 hBS
      refine (wpIn_wide (n := 3)).1 ?_
      refine wpIn_rangeFunc_ownH (w0 := wS) rfl (by decide) (gf := 20) (lb := #[.pointer (some ⟨wr.heap.size + 1 + 1, 0, none⟩), .pointer (some ⟨wr.heap.size + 1 + 1 + 1, 0, none⟩)]) rfl trivial (enters_of Try.func20 (by kernel_rfl) rfl)
        (left_stops 2 (by decide) (wr.heap.size + 1 + 1) (wr.heap.size + 1 + 1 + 1) (w.heap.size + 1) w.heap.size A c lists at_ ha (fun j h => by have := hb j h; omega) hLL S (fun k h => by rw [hS9] at h; omega) (by rw [hS9]; omega) (by rw [hS9]; omega) (by rw [hS9]; omega) w wS rfl hC hc hBw hNS el ea et)
        (fun h k => ⟨h.1.then_ k.1 (fun _ h => .inl h), h.2.trans k.2⟩) (kp_putObj hNS (fun k hk => (hS9 k).2 (.inr (.inr hk)))) (Below.refl _ _) (fun _ => rfl)
        (fun pre W => W.heap[wr.heap.size]? = some (.cells #[.int .i64 (stf pre).1] 3 (0, 0)) ∧ W.heap[wr.heap.size + 1]? = some (.cells #[.int .u64 (stf pre).2.f0, .int .u64 (stf pre).2.f1] 32 (0, 0)) ∧ Kept wS W S ∧ Below w.heap.size wS W)
        (fun _ _ _ => False)
        (fun s X Y row hs hg hr => ⟨blk_grown hs.1 hg (fun e => by have := (hr _ e.symm).1; omega), blk_grown hs.2.1 hg (fun e => by have := (hr _ e.symm).1; omega), Kept.of_grown hg hs.2.2.1 (fun k e => .inl ((hS9 k).2 (.inr (.inr (hr k e).1)))), hs.2.2.2.grown hg (Nat.le_trans hNS hs.2.2.1.1) (fun k e => by have := (hr k e).1; omega)⟩)
        (fun _ _ _ _ _ hs _ _ => hs)
        ⟨e9, e10, Kept.refl _ _, Below.refl _ _⟩
        (fun x a' W => ∃ Bx, wS.heap.size ≤ Bx ∧ W.heap[Bx]? = some (.cells #[.int .u64 x.2.f0, .int .u64 x.2.f1] 32 (0, 0)) ∧ a' = { tmps := #[.slice A lists.length c, .func (.func 18) #[] #[], .int .i64 lim, undef, .pointer (some ⟨w.heap.size, 0, none⟩), undef, .slice none 0 0, .slice (some ⟨w.heap.size + 1, 0, none⟩) lists.length lists.length, .slice Av out.length cv, .pointer (some ⟨wr.heap.size, 0, none⟩), .pointer (some ⟨wr.heap.size + 1, 0, none⟩), .int .i64 (x.1 : Int), .pointer (some ⟨Bx, 0, none⟩), u13, u14, u15, .slice Av out.length cv, .int .i64 (out.length : Int), .int .i64 lim, .bool true, .slice A lists.length c, .slice (some ⟨w.heap.size + 1, 0, none⟩) lists.length lists.length, .func (.func 20) #[] #[.pointer (some ⟨wr.heap.size + 1 + 1, 0, none⟩), .pointer (some ⟨wr.heap.size + 1 + 1 + 1, 0, none⟩)], .int .i64 (x.1 : Int), .agg #[.int .u64 x.2.f0, .int .u64 x.2.f1], u25, u26, u27, u28, u29, u30, u31, u32, u33, u34, u35, u36, u37, u38, u39, u40, u41, u42, u43, u44, u45, u46, undef], defers := [] })
        (fun x a' s X Y row hs hg hr => by
          obtain ⟨Bx, h1, h2, h3⟩ := hs
          exact ⟨Bx, h1, blk_grown h2 hg (fun e => by obtain ⟨_, o, ho, hc⟩ := hr Bx e.symm; rw [h2] at ho; cases ho; cases hc), h3⟩)
        ?assign ?body ?done ?stop
      case assign =>
        rintro l pre x W K ⟨h9, h10, hKp, hBp⟩ hK
        have hWz := hKp.1
        dsimp only [encY]
        gi_wp2
        exact hK _ _ ((KeepsOthers.alloc _ _).from _) ⟨(Kept.refl W S).alloc _, (Below.refl _ W).alloc (by omega) _⟩ ⟨blk_alloc h9 _, blk_alloc h10 _, hKp.alloc _, hBp.alloc (by omega) _⟩ ⟨W.heap.size, hWz, blk_new W _, rfl⟩
      case body =>
        rintro l pre x a' W hl ⟨r, hr⟩ ⟨h9, h10, hKp, hBp⟩ ⟨Bx, hBx, bX, rfl⟩ hlt
        have e4W := blk_kept e4 hKp (by rw [hS9]; omega)
        have c4 : W.cell? ⟨w.heap.size, 0, none⟩ = some (.func (.func 18) #[] #[]) := (blk_cell e4W 0).trans rfl
        have c9 : W.cell? ⟨wr.heap.size, 0, none⟩ = some (.int .i64 (stf pre).1) := (blk_cell h9 0).trans rfl
        have c100 : W.cell? ⟨wr.heap.size + 1, 0, none⟩ = some (.int .u64 (stf pre).2.f0) := (blk_cell h10 0).trans rfl
        have c101 : W.cell? ⟨wr.heap.size + 1, 1, none⟩ = some (.int .u64 (stf pre).2.f1) := (blk_cell h10 1).trans rfl
        have cX0 : W.cell? ⟨Bx, 0, none⟩ = some (.int .u64 x.2.f0) := (blk_cell bX 0).trans rfl
        have cX1 : W.cell? ⟨Bx, 1, none⟩ = some (.int .u64 x.2.f1) := (blk_cell bX 1).trans rfl
        have f9 : W.frozen? ⟨wr.heap.size, 0, none⟩ = false := blk_frozen h9 0
        have f100 : W.frozen? ⟨wr.heap.size + 1, 0, none⟩ = false := blk_frozen h10 0
        have f101 : W.frozen? ⟨wr.heap.size + 1, 1, none⟩ = false := blk_frozen h10 1
        have hd : 1 ≤ 3 - 1 - 1 := by decide
        have hmx : Try.prog.follows .mixedOrders = true := by kernel_rfl
        have hNW : w.heap.size ≤ W.heap.size := Nat.le_trans hNS hKp.1
        have HPUT := Aside0.mk (fun (W2 : World) (hb : Below W.heap.size W W2) => all_put (B := wS.heap.size) (.int .i64 (x.1 : Int)) (.int .u64 x.2.f0) (.int .u64 x.2.f1) hb hNW h9 h10 (by omega) ((hS9 _).2 (.inl rfl)) ((hS9 _).2 (.inr (.inl rfl))) (by omega) (by omega) hKp hBp)
        have HSTAY := Aside0.mk (fun (W2 : World) (hb : Below W.heap.size W W2) => all_stay (B := wS.heap.size) hb hNW h9 h10 hKp hBp)
        by_cases hb0 : (stf pre).1 < 0
        · have hb0b : decide ((stf pre).1 < 0) = true := decide_eq_true hb0
          have HP := Aside0.mk (show stf (pre ++ [x]) = ((x.1 : Int), x.2) from by rw [stf_snoc]; unfold pickS; rw [if_pos (.inl hb0)])
          gi_wp2
          refine ⟨fun _ h => (by cases h), ?_⟩
          gi_wp2
          gi_region_with_o fail
          all_goals gi_wp2
          all_goals (try go_bits)
          all_goals
            have hp := HPUT.out W (Below.refl _ _)
            refine ⟨hp.1, hp.2.1, ?_⟩
            dsimp only
            rw [HP.out]
            exact hp.2.2
        · have hb0b : decide ((stf pre).1 < 0) = false := decide_eq_false hb0
          by_cases hb1 : x.2.f0 < (stf pre).2.f0
          · have hb1b : decide (x.2.f0 < (stf pre).2.f0) = true := decide_eq_true hb1
            have HP := Aside0.mk (show stf (pre ++ [x]) = ((x.1 : Int), x.2) from by rw [stf_snoc]; unfold pickS; rw [if_pos (.inr hb1)])
            gi_wp2_with ((first | gi_at_call 18 | (refine ⟨trivial, ?_⟩; gi_at_call 18) | (refine ⟨fun _ _ => trivial, ?_⟩; gi_at_call 18)); refine (CallsIn.inRound l (callsIn_wide.2 (less_law x.2.f0 x.2.f1 (stf pre).2.f0 (stf pre).2.f1 _))).mono ?_; rintro e W2 ⟨rfl, hb⟩; have HB2 := Aside0.mk hb; have d9 := (pw_cell_below hb c9); have d100 := (pw_cell_below hb c100); have d101 := (pw_cell_below hb c101); have dX0 := (pw_cell_below hb cX0); have dX1 := (pw_cell_below hb cX1); have g9 : W2.frozen? ⟨wr.heap.size, 0, none⟩ = false := blk_frozen (blk_below h9 hb) 0; have g100 : W2.frozen? ⟨wr.heap.size + 1, 0, none⟩ = false := blk_frozen (blk_below h10 hb) 0; have g101 : W2.frozen? ⟨wr.heap.size + 1, 1, none⟩ = false := blk_frozen (blk_below h10 hb) 1; clear hb)
            gi_region_with_o fail
            all_goals gi_wp2
            all_goals (try go_bits)
            all_goals
              have hp := HPUT.out W2 HB2.out
              refine ⟨hp.1, hp.2.1, ?_⟩
              dsimp only
              rw [HP.out]
              exact hp.2.2
          · have hb1b : decide (x.2.f0 < (stf pre).2.f0) = false := decide_eq_false hb1
            have HP := Aside0.mk (show stf (pre ++ [x]) = stf pre from by rw [stf_snoc]; unfold pickS; rw [if_neg (fun h => h.elim hb0 hb1)])
            gi_wp2_with ((first | gi_at_call 18 | (refine ⟨trivial, ?_⟩; gi_at_call 18) | (refine ⟨fun _ _ => trivial, ?_⟩; gi_at_call 18)); refine (CallsIn.inRound l (callsIn_wide.2 (less_law x.2.f0 x.2.f1 (stf pre).2.f0 (stf pre).2.f1 _))).mono ?_; rintro e W2 ⟨rfl, hb⟩; have HB2 := Aside0.mk hb; have d9 := (pw_cell_below hb c9); have d100 := (pw_cell_below hb c100); have d101 := (pw_cell_below hb c101); have dX0 := (pw_cell_below hb cX0); have dX1 := (pw_cell_below hb cX1); have g9 : W2.frozen? ⟨wr.heap.size, 0, none⟩ = false := blk_frozen (blk_below h9 hb) 0; have g100 : W2.frozen? ⟨wr.heap.size + 1, 0, none⟩ = false := blk_frozen (blk_below h10 hb) 0; have g101 : W2.frozen? ⟨wr.heap.size + 1, 1, none⟩ = false := blk_frozen (blk_below h10 hb) 1; clear hb)
            have hp := HSTAY.out W2 HB2.out
            refine ⟨hp.1, hp.2.1, ?_⟩
            dsimp only
            rw [HP.out]
            exact hp.2.2
      case stop =>
        rintro D cc pre W _ _ h _
        exact h.elim
      case done =>
        rintro D ys W hD rfl ⟨h9, h10, hKp, hBp⟩ hK
        have c9 : W.cell? ⟨wr.heap.size, 0, none⟩ = some (.int .i64 (stf (yl (rests lists at_) 0)).1) := (blk_cell h9 0).trans rfl
        have mv : ∀ k, k < wr.heap.size → W.heap[k]? = wr.heap[k]? := fun k hk => (hKp.2 k (by omega) (by rw [hS9]; omega)).trans (hBS.block k hk)
        have eT : W.heap[w.heap.size + 1]? = some (.cells (nat64 at_) 3 (0, 0)) := (mv _ (by omega)).trans hA.bT
        have e4W : W.heap[w.heap.size]? = some (.cells #[.func (.func 18) #[] #[]] 39 (0, 0)) := (mv _ (by omega)).trans hA.b4
        have hO : k32.R 32 W w.heap.size (fun k_ => w.heap.size ≤ k_) (.slice Av out.length cv) out := Kd.R_step hA.own (fun k _ hk => mv k hk)
        have hDs : ∀ E ∈ D :: Ds, w.heap.size ≤ E ∧ W.heap[E]? = some (.deferred (some [])) := by
          intro E hE
          rcases List.mem_cons.1 hE with rfl | hE
          · exact ⟨by omega, hK⟩
          · exact ⟨(hA.ds E hE).1, (mv E (blk_lt (hA.ds E hE).2)).trans (hA.ds E hE).2⟩
        have hnd : (D :: Ds).Nodup := List.nodup_cons.2 ⟨fun hE => by have := blk_lt (hA.ds D hE).2; omega, hA.nd⟩
        have hBW : Below w.heap.size w W := hBw.trans hBp
        by_cases hb0 : (stf (yl (rests lists at_) 0)).1 < 0
        · have hb0b : decide ((stf (yl (rests lists at_) 0)).1 < 0) = true := decide_eq_true hb0
          have hmg : mgo lim.toNat lists = out := by
            rw [← hg, show lim.toNat - out.length = (lim.toNat - out.length - 1) + 1 from by omega]
            unfold mgo
            rw [if_pos hb0, List.append_nil]
          have HMG := Aside0.mk hmg
          have HBW := Aside0.mk hBW
          have HDS := Aside0.mk hDs
          have HND := Aside0.mk hnd
          have HOO := Aside0.mk hO
          clear hmg hBW hDs hnd hO hg
          go_wp2
          refine leave_marks (D :: Ds) W HND.out HDS.out HOO.out HBW.out rfl (fun w' h1 h2 => ⟨_, results_tmp rfl _ _ _, _, rfl, ?_, h2⟩)
          rw [HMG.out]
          exact h1
        · obtain ⟨j, hj, hst, hl⟩ := pick_at lists at_ ha hb0
          have hja : j < at_.length := by omega
          obtain ⟨hr1, hr2⟩ := rests_set lists at_ ha j hja hl
          obtain ⟨x, hx⟩ : ∃ x, x = (lists[j]).getD at_[j] z32 := ⟨_, rfl⟩
          rw [← hx] at hst hr1
          rw [hst] at h9 h10 hb0 c9
          have hb0b : decide ((j : Int) < 0) = false := decide_eq_false hb0
          have cT : W.cell? ⟨w.heap.size + 1, j, none⟩ = some (.int .i64 (at_[j] : Int)) := (blk_cell eT j).trans (by simp [nat64, hja])
          have fT : W.frozen? ⟨w.heap.size + 1, j, none⟩ = false := blk_frozen eT j
          have d0 : W.cell? ⟨wr.heap.size + 1, 0, none⟩ = some (.int .u64 x.f0) := (blk_cell h10 0).trans rfl
          have d1 : W.cell? ⟨wr.heap.size + 1, 1, none⟩ = some (.int .u64 x.f1) := (blk_cell h10 1).trans rfl
          have hbj := hb j hja
          have hj64 : (j : Int) < (lists.length : Int) := by omega
          have hn1 : ((rests lists (at_.set j (at_[j] + 1))).map List.length).sum + 1 = n := by
            rw [hr2, ← hn]
            exact sum_set _ _ _ _ hr1
          have hmg : (out ++ [x]) ++ mgo (lim.toNat - (out ++ [x]).length) (rests lists (at_.set j (at_[j] + 1))) = mgo lim.toNat lists := by
            rw [hr2]
            exact mgo_snoc hlt hg hst
          have HLAST := Aside0.mk (fun (v1 : Value) (w1 : World) (ho : k32.R 32 w1 w.heap.size (fun k_ => w.heap.size ≤ k_) v1 (out ++ [x])) (hb1 : Below w.heap.size w w1) (hg1 : (W.setCell ⟨w.heap.size + 1, j, none⟩ (.int .i64 ((at_[j] : Int) + 1))).grownBy w1 (Value.slice Av out.length cv).ownBlock) =>
            show AllAt w1 w w.heap.size (w.heap.size + 1) w.heap.size (at_.set j (at_[j] + 1)) (out ++ [x]) v1 (D :: Ds) from by
              have hne : ∀ (k : Nat) (o : Obj), W.heap[k]? = some o → (∀ cells, o ≠ .cells cells 32 (0, 0)) → some k ≠ (Value.slice Av out.length cv).ownBlock := by
                intro k o ho2 hne e
                obtain ⟨inner, hoo⟩ := Kd.R_own hO
                obtain ⟨cells, hc⟩ := own_typed hoo k e.symm
                rw [ho2] at hc
                exact hne cells (Option.some.inj hc)
              have mv1 : ∀ (k : Nat) (o : Obj), W.heap[k]? = some o → k ≠ w.heap.size + 1 → (∀ cells, o ≠ .cells cells 32 (0, 0)) → w1.heap[k]? = some o := fun k o h1 h2 h3 =>
                (hg1.block k (by simpa using blk_lt h1) (hne k o h1 h3)).trans (m_far h1 h2 _)
              refine ⟨?_, mv1 _ _ e4W (by omega) (fun _ h => by cases h), ho, fun E hE => ⟨(hDs E hE).1, mv1 _ _ (hDs E hE).2 (fun e => by have := (hDs E hE).2; rw [e, eT] at this; cases this) (fun _ h => by cases h)⟩, hnd, hb1⟩
              have h1 := m_put eT (i := j) (.int .i64 ((at_[j] : Int) + 1))
              rw [nat64_set1] at h1
              exact (hg1.block _ (blk_lt h1) (hne _ _ eT (fun _ h => by cases h))).trans h1)
          have HRR := Aside0.mk (Kd.R_set hO eT (by decide) j (.int .i64 ((at_[j] : Int) + 1)))
          have HBB := Aside0.mk (hBW.setCell (p := ⟨w.heap.size + 1, j, none⟩) (by simp) (.int .i64 ((at_[j] : Int) + 1)))
          have HMG := Aside0.mk hmg
          have HN1 := Aside0.mk hn1
          have HOL := Aside0.mk ho
          have hat1 : at_[j] + 1 ≤ 10000 := by have := len_le_sum lists j hj; omega
          have HTL := Aside0.mk hb
          clear hmg hBW hDs hnd hO hg hst hr1 hr2 hn1 hx hb hn
          go_wp2_with (at_builtin; refine Kd.R_append k32 (w0 := w) w.heap.size rfl (.tmp 43) (.tmp 45) 25 32 (.agg #[(.int .u64 0), (.int .u64 0)]) 16 rfl Try.underlying25 info32 rfl (by decide) (by decide) (.slice Av out.length cv) out x [.int .u64 x.f0, .int .u64 x.f1] (fun k_ => w.heap.size ≤ k_) (fun _ => False) rfl (by rw [pw_size_setCell]; rfl) (k32_cells _ _ _ _) (fun _ hk => hk.elim) (fun k_ hk => Nat.le_trans HBB.out.size hk) HRR.out HBB.out HBB.out.size (by have := HOL.out; omega) ?_; intro v1 w1 q1 q2 q3 _; have HL := Aside0.mk (HLAST.out v1 w1 q1 q2 q3); clear q1 q2 q3)
          refine ⟨n - 1, by have := HN1.out; omega, at_.set j (at_[j] + 1), out ++ [x], v1, D :: Ds, by simpa using ha, ?_, by have := HN1.out; omega, by have := HN1.out; have := HOL.out; simp; omega, HMG.out, HL.out, ?_⟩
          · intro i hi
            rw [List.getElem_set]
            split
            · rename_i e
              omega
            · exact HTL.out i (by simpa using hi)
          · (repeat apply Exists.intro)
            rfl
    · have hmg : mgo lim.toNat lists = out := by
        rw [← hg, show lim.toNat - out.length = 0 from by omega]
        simp [mgo]
      have HMG := Aside0.mk hmg
      have HA := Aside0.mk hA
      clear hmg hg hA
      go_wp2
      refine leave_marks Ds wr HA.out.nd HA.out.ds HA.out.own HA.out.bel rfl (fun w' h1 h2 => ⟨_, results_tmp rfl _ _ _, _, rfl, ?_, h2⟩)
      rw [HMG.out]
      exact h1
-- merge.Pairs
def merge_Pairs.f (l0 : List (List (S32))) (a1 : Int) : Option (List (S32)) := if l0.length ≤ 10000 ∧ (l0.map List.length).sum ≤ 10000 then some (mgo a1.toNat l0) else none
theorem merge_Pairs.calls (A0 : Option Addr) (c0 : Nat) (l0 : List (List (S32))) (a1 : Int) (r : List (S32)) (w : World) (hr0 : Kd.C (Kd.slice 32 k32) w A0 l0.length l0) (hc0 : l0.length ≤ c0) (h : merge_Pairs.f l0 a1 = some r) :
    Calls Try.prog 10 #[.slice A0 l0.length c0, .int .i64 a1] w fun e w' => ∃ v0_ : Value, e = .returned (v0_) ∧ Kd.R k32 32 w' w.heap.size (fun k_ => (w.heap.size ≤ k_)) v0_ r ∧ Below w.heap.size w w' := by
  unfold merge_Pairs.f at h
  split at h
  · rename_i hb
    injection h with h
    subst h
    have HL := Aside0.mk (all_law w A0 c0 l0 a1 hr0 hc0 hb.1 hb.2)
    clear hr0 hc0 hb
    go_enter Try.func10, Try.ntmps10
    go_wp2_with (go_at_call 17; refine HL.out.mono ?_; rintro e w' ⟨v, rfl, h1, h2⟩; have H1 := Aside0.mk h1; have H2 := Aside0.mk h2; clear h1 h2)
    go_ret
    exact ⟨_, rfl, H1.out, H2.out⟩
  · cases h
end


/-! ### merge_Rises: function 13 -/
def merge_Rises.l0 : Nat → List (S32) → Int → Int → Option (Bool)
  | 0, _, _, _ => none
  | k + 1, x0, x5, x6 => if x6 < x5 then (if x6 > 0 then (if 0 ≤ x6 then (if x6 < (x0.length : Int) then (if 0 ≤ (wrap64 (x6 - 1)) then (if (wrap64 (x6 - 1)) < (x0.length : Int) then (if ((rd_T32 x0 x6).f0) ≤ ((rd_T32 x0 (wrap64 (x6 - 1))).f0) then (some false) else (merge_Rises.l0 k x0 x5 (wrap64 (x6 + 1)))) else (none)) else (none)) else (none)) else (none)) else (merge_Rises.l0 k x0 x5 (wrap64 (x6 + 1)))) else (some true)
def merge_Rises.f (k : Nat) (l0 : List (S32)) : Option (Bool) := merge_Rises.l0 k l0 (l0.length : Int) 0
theorem merge_Rises.mono_l : ∀ k, (∀ y0 y1 y2, LeO (merge_Rises.l0 k y0 y1 y2) (merge_Rises.l0 (k + 1) y0 y1 y2))
  | 0 => fun _ _ _ r h => by simp [merge_Rises.l0] at h
  | k + 1 => by
    have ih0 := merge_Rises.mono_l k
    · intro y0 y1 y2
      unfold merge_Rises.l0
      repeat' first
      | (with_reducible exact ih0 _ _ _)
      | (with_reducible exact LeO.refl _)
      | (with_reducible exact LeO.none _)
      | (with_reducible refine LeO.ite ?_ ?_)
      | (with_reducible refine LeO.bind ?_ (fun _ => ?_))
      | exact ih0 _ _ _
      | exact LeO.none _
      | refine LeO.ite ?_ ?_
      | refine LeO.bind ?_ (fun _ => ?_)
theorem merge_Rises.mono : ∀ a0 k, LeO (merge_Rises.f k a0) (merge_Rises.f (k + 1) a0) := by
  intro a0 k
  have ih0 := merge_Rises.mono_l k
  unfold merge_Rises.f
  repeat' first
      | (with_reducible exact ih0 _ _ _)
      | (with_reducible exact LeO.refl _)
      | (with_reducible exact LeO.none _)
      | (with_reducible refine LeO.ite ?_ ?_)
      | (with_reducible refine LeO.bind ?_ (fun _ => ?_))
      | exact ih0 _ _ _
      | exact LeO.none _
      | refine LeO.ite ?_ ?_
      | refine LeO.bind ?_ (fun _ => ?_)
set_option maxHeartbeats 8000000 in
set_option maxRecDepth 100000 in
theorem merge_Rises.calls (k : Nat) (A0 : Option Addr) (c0 : Nat) (l0 : List (S32)) (r : Bool) (w : World) (hr0 : Kd.C k32 w A0 l0.length l0) (hc0 : l0.length ≤ c0) (h : merge_Rises.f k l0 = some r) :
    Calls Try.prog 13 #[.slice A0 l0.length c0] w fun e w' => e = .returned (.bool r) ∧ Drawn0 w w' := by
  have HR0 := Aside0.mk hr0
  have HC0 := Aside0.mk hc0
  clear hr0 hc0
  have H : (merge_Rises.l0 k l0 (l0.length : Int) 0) = some r := h
  clear h
  have H' := Aside0.mk H
  clear H
  go_enter Try.func13, Try.ntmps13
  go_wp2
  repeat (go_quiet (fail); try go_wp2)
  go_loopg [6] k (fun kq v6 w' => ∃ (x6_1 : Int), v6 = .int .i64 x6_1 ∧ Aside0 (merge_Rises.l0 kq l0 (l0.length : Int) x6_1 = some r) ∧ Aside0 (kq ≤ k) ∧ Drawn0 w w')
  case atStart => exact ⟨(0), (by first | rfl | (simp; done) | (simp [*]; done)), H', ⟨Nat.le_refl _⟩, by repeat (first | exact Drawn0.refl _ | apply Drawn0.step)⟩
  case round =>
    clear H'
    try clear c1
    obtain ⟨x6_1, rfl, HA, HK1, ⟨m1, rfl⟩⟩ := hrel
    cases gk with
    | zero => exact absurd HA.out (by simp [merge_Rises.l0])
    | succ k1 =>
      have H := HA.out
      clear HA
      simp only [merge_Rises.l0] at H
      by_cases c2 : x6_1 < (l0.length : Int)
      · rw [if_pos c2] at H
        have c2b0 : decide (x6_1 < (l0.length : Int)) = true := decide_eq_true c2
        clear c2
        by_cases c3 : x6_1 > 0
        · rw [if_pos c3] at H
          have c3b0 : decide (0 < x6_1) = true := decide_eq_true c3
          clear c3
          by_cases c4 : 0 ≤ x6_1
          · rw [if_pos c4] at H
            have c4b0 : decide (0 ≤ x6_1) = true := decide_eq_true c4
            clear c4
            by_cases c5 : x6_1 < (l0.length : Int)
            · rw [if_pos c5] at H
              have c5b0 : decide (x6_1 < (l0.length : Int)) = true := decide_eq_true c5
              clear c5
              obtain ⟨ji6, hji6⟩ : ∃ j_ : Int, (wrap64 (x6_1 - 1)) = j_ := ⟨_, rfl⟩
              replace H : (if 0 ≤ (ji6) then (if (ji6) < (l0.length : Int) then (if ((rd_T32 l0 x6_1).f0) ≤ ((rd_T32 l0 (ji6)).f0) then (some false) else (merge_Rises.l0 k1 l0 (l0.length : Int) (wrap64 (x6_1 + 1)))) else (none)) else (none)) = some r := by first | (rw [hji6] at H; exact H) | (simp only [hji6] at H ⊢; exact H)
              have hji6w : (IntKind.i64.wrap (x6_1 - 1)) = ji6 := (i64_w _).trans hji6
              by_cases c7 : 0 ≤ (ji6)
              · rw [if_pos c7] at H
                have c7b0 : decide (0 ≤ (ji6)) = true := decide_eq_true c7
                clear c7
                by_cases c8 : (ji6) < (l0.length : Int)
                · rw [if_pos c8] at H
                  have c8b0 : decide ((ji6) < (l0.length : Int)) = true := decide_eq_true c8
                  clear c8
                  by_cases c9 : ((rd_T32 l0 x6_1).f0) ≤ ((rd_T32 l0 (ji6)).f0)
                  · rw [if_pos c9] at H
                    have c9b0 : decide (((rd_T32 l0 x6_1).f0) ≤ ((rd_T32 l0 (ji6)).f0)) = true := decide_eq_true c9
                    clear c9
                    obtain rfl := Option.some.inj H
                    have p101 : 0 ≤ (x6_1 : Int) := of_decide_eq_true (by first | (with_reducible assumption) | assumption)
                    have q101 : x6_1 < (l0.length : Int) := of_decide_eq_true (by first | (with_reducible assumption) | assumption)
                    obtain ⟨ad101, e101, hx101_0, hx101_1⟩ := at_T32 HR0.out x6_1 p101 q101
                    cases e101
                    replace p101 := eq_true p101
                    replace q101 := eq_true q101
                    have p102 : 0 ≤ ((ji6) : Int) := of_decide_eq_true (by first | (with_reducible assumption) | assumption)
                    have q102 : (ji6) < (l0.length : Int) := of_decide_eq_true (by first | (with_reducible assumption) | assumption)
                    obtain ⟨ad102, e102, hx102_0, hx102_1⟩ := at_T32 HR0.out (ji6) p102 q102
                    obtain rfl : ad101 = ad102 := (by injection e102)
                    replace p102 := eq_true p102
                    replace q102 := eq_true q102
                    go_wp2
                    repeat (go_quiet (fail); try go_wp2)
                    go_ret
                    exact ⟨by first | rfl | (simp; done) | (simp only [← hji6] <;> (first | rfl | simp)) | (simp [*]; done), by repeat (first | exact Drawn0.refl _ | apply Drawn0.step)⟩
                  · rw [if_neg c9] at H
                    have c9b0 : decide (((rd_T32 l0 x6_1).f0) ≤ ((rd_T32 l0 (ji6)).f0)) = false := decide_eq_false c9
                    clear c9
                    have H' := Aside0.mk H
                    clear H
                    have p101 : 0 ≤ (x6_1 : Int) := of_decide_eq_true (by first | (with_reducible assumption) | assumption)
                    have q101 : x6_1 < (l0.length : Int) := of_decide_eq_true (by first | (with_reducible assumption) | assumption)
                    obtain ⟨ad101, e101, hx101_0, hx101_1⟩ := at_T32 HR0.out x6_1 p101 q101
                    cases e101
                    replace p101 := eq_true p101
                    replace q101 := eq_true q101
                    have p102 : 0 ≤ ((ji6) : Int) := of_decide_eq_true (by first | (with_reducible assumption) | assumption)
                    have q102 : (ji6) < (l0.length : Int) := of_decide_eq_true (by first | (with_reducible assumption) | assumption)
                    obtain ⟨ad102, e102, hx102_0, hx102_1⟩ := at_T32 HR0.out (ji6) p102 q102
                    obtain rfl : ad101 = ad102 := (by injection e102)
                    replace p102 := eq_true p102
                    replace q102 := eq_true q102
                    go_wp2
                    repeat (go_quiet (fail); try go_wp2)
                    go_roundg k1
                    case measure => have := HK1.out; omega
                    case rel => exact ⟨(wrap64 (x6_1 + 1)), (by first | rfl | (simp; done) | (simp [*]; done)), H', ⟨by have := HK1.out; omega⟩, by repeat (first | exact Drawn0.refl _ | apply Drawn0.step)⟩
                · rw [if_neg c8] at H
                  exact absurd H (by simp)
              · rw [if_neg c7] at H
                exact absurd H (by simp)
            · rw [if_neg c5] at H
              exact absurd H (by simp)
          · rw [if_neg c4] at H
            exact absurd H (by simp)
        · rw [if_neg c3] at H
          have c3b0 : decide (0 < x6_1) = false := decide_eq_false c3
          clear c3
          have H' := Aside0.mk H
          clear H
          go_wp2
          repeat (go_quiet (fail); try go_wp2)
          go_roundg k1
          case measure => have := HK1.out; omega
          case rel => exact ⟨(wrap64 (x6_1 + 1)), (by first | rfl | (simp; done) | (simp [*]; done)), H', ⟨by have := HK1.out; omega⟩, by repeat (first | exact Drawn0.refl _ | apply Drawn0.step)⟩
      · rw [if_neg c2] at H
        have c2b0 : decide (x6_1 < (l0.length : Int)) = false := decide_eq_false c2
        clear c2
        obtain rfl := Option.some.inj H
        go_wp2
        repeat (go_quiet (fail); try go_wp2)
        go_ret
        exact ⟨by first | rfl | (simp; done) | (simp [*]; done), by repeat (first | exact Drawn0.refl _ | apply Drawn0.step)⟩

end Go.Proofs.Ytahifbdggbeajab.PMergeOne
