-- Written by a program of this session: a variant of the print that takes proofs by hand (wip/tools/mkprint.py)
import Derived.Test.YtpcmoclohepdiagPWorldActsx0
import Derived.Test.YtpcmoclohepdiagPWorldActsx1
import Derived.Test.YtpcmoclohepdiagPWorldActsx2
import Derived.Test.YtpcmoclohepdiagPWorldActsx3
namespace Go.Proofs.Ytpcmoclohepdiag.PWorldActs
open Go.RowKit Go.Proofs.YtpcmoclohepdiagW.PrintWords Go.Proofs.YtpcmoclohepdiagW.PrintLast
set_option linter.unusedVariables false
set_option linter.unusedSimpArgs false

/-! ### corrielaw08_awake: function 8 (by hand) -/
def layout_Word.f (k : Nat) (t b i f c n : Int) : Option Int := (conf_Ops.f k t b i f c).bind fun m => if n < 0 then some (-1) else if n ≥ m then some (-1) else (conf_Nodes.f k t b i f c).bind fun q => some (wrap64 (q + n))
theorem layout_Word.mono : ∀ t b i f c n k, LeO (layout_Word.f k t b i f c n) (layout_Word.f (k + 1) t b i f c n) := by
 intro t b i f c n k
 exact LeO.bind (conf_Ops.mono _ _ _ _ _ _) (fun _ => LeO.ite (LeO.refl _) (LeO.ite (LeO.refl _) (LeO.bind (conf_Nodes.mono _ _ _ _ _ _) (fun _ => LeO.refl _))))
set_option maxHeartbeats 8000000 in
set_option maxRecDepth 100000 in
theorem layout_Word.calls (k : Nat) (t b i f c n r : Int) (w : World) (h : layout_Word.f k t b i f c n = some r) :
  Calls Try.prog 41 #[.agg #[.int .i64 t, .int .i64 b, .int .i64 i, .int .i64 f, .int .i64 c], .int .i64 n] w fun e w' => e = .returned (.int .i64 r) ∧ Below w.heap.size w w' := by
 have hmf : ∀ (fn : Fn) (first cap : Array Value) (w : World), (Instr.makeFunc fn first cap).run Try.prog w = .ok (.func fn first cap) w := fun _ _ _ _ => rfl
 obtain ⟨m, hm, h⟩ := Option.bind_eq_some_iff.mp h
 have Hm := Aside0.mk hm
 clear hm
 by_cases c1 : n < 0
 ·rw [if_pos c1] at h
  obtain rfl := Option.some.inj h
  clear h
  go_enter Try.func41, Try.ntmps41
  go_wp2_with (first | (go_at_call 68; (with_reducible refine (conf_Ops.calls k t b i f c m _ Hm.out).mono ?_); rintro e w1 ⟨rfl, hb⟩; have HB := Aside0.mk (below_step (below_alloc (Below.refl w.heap.size w) _) hb); have K1 := Aside0.mk (blk_below (blk_new w (.cells #[.int .i64 t, .int .i64 b, .int .i64 i, .int .i64 f, .int .i64 c] 23)) hb); have cK1_0 : w1.cell? ⟨w.heap.size, 0, none⟩ = some (.int .i64 t) := (blk_cell K1.out 0).trans rfl; have cK1_1 : w1.cell? ⟨w.heap.size, 1, none⟩ = some (.int .i64 b) := (blk_cell K1.out 1).trans rfl; have cK1_2 : w1.cell? ⟨w.heap.size, 2, none⟩ = some (.int .i64 i) := (blk_cell K1.out 2).trans rfl; have cK1_3 : w1.cell? ⟨w.heap.size, 3, none⟩ = some (.int .i64 f) := (blk_cell K1.out 3).trans rfl; have cK1_4 : w1.cell? ⟨w.heap.size, 4, none⟩ = some (.int .i64 c) := (blk_cell K1.out 4).trans rfl; clear hb) | (go_at_call 74; go_in))
  go_ret
  exact ⟨rfl, HB.out⟩
 ·by_cases c2 : n ≥ m
  ·rw [if_neg c1, if_pos c2] at h
   obtain rfl := Option.some.inj h
   clear h
   go_enter Try.func41, Try.ntmps41
   go_wp2_with (first | (go_at_call 68; (with_reducible refine (conf_Ops.calls k t b i f c m _ Hm.out).mono ?_); rintro e w1 ⟨rfl, hb⟩; have HB := Aside0.mk (below_step (below_alloc (Below.refl w.heap.size w) _) hb); have K1 := Aside0.mk (blk_below (blk_new w (.cells #[.int .i64 t, .int .i64 b, .int .i64 i, .int .i64 f, .int .i64 c] 23)) hb); have cK1_0 : w1.cell? ⟨w.heap.size, 0, none⟩ = some (.int .i64 t) := (blk_cell K1.out 0).trans rfl; have cK1_1 : w1.cell? ⟨w.heap.size, 1, none⟩ = some (.int .i64 b) := (blk_cell K1.out 1).trans rfl; have cK1_2 : w1.cell? ⟨w.heap.size, 2, none⟩ = some (.int .i64 i) := (blk_cell K1.out 2).trans rfl; have cK1_3 : w1.cell? ⟨w.heap.size, 3, none⟩ = some (.int .i64 f) := (blk_cell K1.out 3).trans rfl; have cK1_4 : w1.cell? ⟨w.heap.size, 4, none⟩ = some (.int .i64 c) := (blk_cell K1.out 4).trans rfl; clear hb) | (go_at_call 74; go_in))
   go_ret
   exact ⟨rfl, HB.out⟩
  ·rw [if_neg c1, if_neg c2] at h
   obtain ⟨q, hq, h⟩ := Option.bind_eq_some_iff.mp h
   have Hq := Aside0.mk hq
   clear hq
   obtain rfl := Option.some.inj h
   clear h
   go_enter Try.func41, Try.ntmps41
   go_wp2_with (first | (go_at_call 68; (with_reducible refine (conf_Ops.calls k t b i f c m _ Hm.out).mono ?_); rintro e w1 ⟨rfl, hb⟩; have HB := Aside0.mk (below_step (below_alloc (Below.refl w.heap.size w) _) hb); have K1 := Aside0.mk (blk_below (blk_new w (.cells #[.int .i64 t, .int .i64 b, .int .i64 i, .int .i64 f, .int .i64 c] 23)) hb); have cK1_0 : w1.cell? ⟨w.heap.size, 0, none⟩ = some (.int .i64 t) := (blk_cell K1.out 0).trans rfl; have cK1_1 : w1.cell? ⟨w.heap.size, 1, none⟩ = some (.int .i64 b) := (blk_cell K1.out 1).trans rfl; have cK1_2 : w1.cell? ⟨w.heap.size, 2, none⟩ = some (.int .i64 i) := (blk_cell K1.out 2).trans rfl; have cK1_3 : w1.cell? ⟨w.heap.size, 3, none⟩ = some (.int .i64 f) := (blk_cell K1.out 3).trans rfl; have cK1_4 : w1.cell? ⟨w.heap.size, 4, none⟩ = some (.int .i64 c) := (blk_cell K1.out 4).trans rfl; clear hb) | (go_at_call 74; go_in) | (go_at_call 78; go_in) | (go_at_call 67; (with_reducible refine (conf_Nodes.calls k t b i f c q _ Hq.out).mono ?_); rintro e w2 ⟨rfl, hb⟩; have HB2 := Aside0.mk (below_step HB.out hb); clear hb))
   go_ret
   exact ⟨rfl, HB2.out⟩
structure CellsAt (w : World) (gc gw : Nat) (ws : List Int) (st : Int) : Prop where
 c : w.heap[gc]? = some (.cells #[.slice (some ⟨gw, 0, none⟩) ws.length ws.length, .int .i64 st] 82 (0, 0))
 w : w.heap[gw]? = some (.cells (ws.map (Value.int .u64)).toArray 101 (0, 0))
 ne : gc ≠ gw
structure Touch (S : Nat → Prop) (w w' : World) : Prop where
 os : w'.os = w.os
 tape : w'.tape = w.tape
 output : w'.output = w.output
 size : w.heap.size ≤ w'.heap.size
 block : ∀ k, k < w.heap.size → ¬ S k → w'.heap[k]? = w.heap[k]?
theorem Touch.refl (S : Nat → Prop) (w : World) : Touch S w w := ⟨rfl, rfl, rfl, Nat.le_refl _, fun _ _ _ => rfl⟩
theorem Touch.trans {S : Nat → Prop} {a b c : World} (h : Touch S a b) (k : Touch S b c) : Touch S a c :=
 ⟨k.os.trans h.os, k.tape.trans h.tape, k.output.trans h.output, Nat.le_trans h.size k.size, fun j hj hs => (k.block j (Nat.lt_of_lt_of_le hj h.size) hs).trans (h.block j hj hs)⟩
theorem Touch.mono {S T : Nat → Prop} {a b : World} (h : Touch S a b) (hst : ∀ k, S k → T k) : Touch T a b := ⟨h.os, h.tape, h.output, h.size, fun j hj hs => h.block j hj (fun h => hs (hst j h))⟩
theorem Touch.new {S : Nat → Prop} {w0 a b : World} (h : Touch (fun k => S k ∨ w0.heap.size ≤ k) a b) (h0 : Touch S w0 a) : Touch S w0 b :=
 ⟨h.os.trans h0.os, h.tape.trans h0.tape, h.output.trans h0.output, Nat.le_trans h0.size h.size, fun j hj hs => (h.block j (Nat.lt_of_lt_of_le hj h0.size) (fun h => h.elim hs (fun h => by omega))).trans (h0.block j hj hs)⟩
theorem Touch.of_below {S : Nat → Prop} {a b : World} (h : Below a.heap.size a b) : Touch S a b := ⟨h.os, h.tape, h.output, h.size, fun j hj _ => h.block j hj⟩
theorem Touch.below {S : Nat → Prop} {a b : World} {N : Nat} (h : Touch S a b) (hN : N ≤ a.heap.size) (hs : ∀ k, S k → N ≤ k) : Below N a b :=
 ⟨h.os, h.tape, h.output, h.size, fun k hk => h.block k (by omega) (fun h => by have := hs k h; omega)⟩
theorem Touch.alloc {S : Nat → Prop} {w0 w : World} (h : Touch S w0 w) (o : Obj) : Touch S w0 (w.alloc o) := h.trans (.of_below (below_alloc (Below.refl _ _) o))
theorem Touch.set {S : Nat → Prop} {w0 w : World} (h : Touch S w0 w) {g i : Nat} (hg : S g ∨ w0.heap.size ≤ g) (v : Value) : Touch S w0 (w.setCell ⟨g, i, none⟩ v) :=
 ⟨h.os, h.tape, h.output, Nat.le_trans h.size (by simp), fun k hk hs => (Below.heap_setCell w ⟨g, i, none⟩ v k (fun e => by subst e; exact hg.elim hs (fun h => by omega))).trans (h.block k hk hs)⟩
theorem cel_put {w : World} {g i : Nat} {cs : Array Value} {t : TypeId} {fr : Nat × Nat} (h : w.heap[g]? = some (.cells cs t fr)) (v : Value) : (w.setCell ⟨g, i, none⟩ v).heap[g]? = some (.cells (cs.setIfInBounds i v) t fr) := by
 rw [setCell_eq_setRow w g i cs t fr v h]
 exact setRow_heap w g cs _ t fr h
theorem cel_far {w : World} {g k i : Nat} {o : Obj} (h : w.heap[k]? = some o) (hne : k ≠ g) (v : Value) : (w.setCell ⟨g, i, none⟩ v).heap[k]? = some o := (Below.heap_setCell w ⟨g, i, none⟩ v k hne).trans h
theorem CellsAt.far {w : World} {gc gw : Nat} {ws : List Int} {st : Int} (h : CellsAt w gc gw ws st) {g i : Nat} (h1 : g ≠ gc) (h2 : g ≠ gw) (v : Value) : CellsAt (w.setCell ⟨g, i, none⟩ v) gc gw ws st := ⟨cel_far h.c (Ne.symm h1) v, cel_far h.w (Ne.symm h2) v, h.ne⟩
theorem CellsAt.step {w : World} {gc gw : Nat} {ws : List Int} {st : Int} (h : CellsAt w gc gw ws st) (s : Int) : CellsAt (w.setCell ⟨gc, 1, none⟩ (.int .i64 s)) gc gw ws s := ⟨cel_put h.c _, cel_far h.w (Ne.symm h.ne) _, h.ne⟩
theorem CellsAt.put {w : World} {gc gw : Nat} {ws : List Int} {st : Int} (h : CellsAt w gc gw ws st) (i : Nat) (v : Int) : CellsAt (w.setCell ⟨gw, i, none⟩ (.int .u64 v)) gc gw (ws.set i v) st := by
 refine ⟨?_, ?_, h.ne⟩
 ·rw [List.length_set]
  exact cel_far h.c h.ne _
 ·rw [cel_put h.w (.int .u64 v)]
  simp [List.map_set]
theorem CellsAt.below {w w1 : World} {gc gw : Nat} {ws : List Int} {st : Int} (h : CellsAt w gc gw ws st) (hb : Below w.heap.size w w1) : CellsAt w1 gc gw ws st := ⟨blk_below h.c hb, blk_below h.w hb, h.ne⟩
theorem CellsAt.lt {w : World} {gc gw : Nat} {ws : List Int} {st : Int} (h : CellsAt w gc gw ws st) : gc < w.heap.size ∧ gw < w.heap.size := ⟨blk_lt h.c, blk_lt h.w⟩
theorem CellsAt.slice {w : World} {gc gw : Nat} {ws : List Int} {st : Int} (h : CellsAt w gc gw ws st) : w.cell? ⟨gc, 0, none⟩ = some (.slice (some ⟨gw, 0, none⟩) ws.length ws.length) := (blk_cell h.c 0).trans rfl
theorem CellsAt.steps {w : World} {gc gw : Nat} {ws : List Int} {st : Int} (h : CellsAt w gc gw ws st) : w.cell? ⟨gc, 1, none⟩ = some (.int .i64 st) := (blk_cell h.c 1).trans rfl
theorem CellsAt.word {w : World} {gc gw : Nat} {ws : List Int} {st : Int} (h : CellsAt w gc gw ws st) (i : Nat) (hi : i < ws.length) : w.cell? ⟨gw, i, none⟩ = some (.int .u64 (ws.getD i 0)) := by
 rw [blk_cell h.w i]
 simp [List.getD, hi]
theorem CellsAt.frz {w : World} {gc gw : Nat} {ws : List Int} {st : Int} (h : CellsAt w gc gw ws st) (i : Nat) : w.frozen? ⟨gc, i, none⟩ = false ∧ w.frozen? ⟨gw, i, none⟩ = false := by
 constructor
 ·simp [World.frozen?, h.c]
 ·simp [World.frozen?, h.w]
set_option maxHeartbeats 8000000 in
set_option maxRecDepth 100000 in
theorem at_uload (g i : Nat) (x : Int) (w : World) (h0 : w.cell? ⟨g, i, none⟩ = some (.int .u64 x)) :
  Calls Try.prog 63 #[.pointer (some ⟨g, i, none⟩)] w fun e w' => e = .returned (.int .u64 x) ∧ w' = w := by
 have hx := run_call_load (P := Try.prog) Try.func92 (by kernel_rfl) (by kernel_rfl) (by kernel_rfl) .u64 (by kernel_rfl) h0
 go_enter Try.func63, Try.ntmps63
 go_wp2
 go_ret
 exact ⟨rfl, rfl⟩
set_option maxHeartbeats 8000000 in
set_option maxRecDepth 100000 in
theorem at_iload (g i : Nat) (x : Int) (w : World) (h0 : w.cell? ⟨g, i, none⟩ = some (.int .i64 x)) :
  Calls Try.prog 35 #[.pointer (some ⟨g, i, none⟩)] w fun e w' => e = .returned (.int .i64 x) ∧ w' = w := by
 have hx := run_call_load (P := Try.prog) Try.func70 (by kernel_rfl) (by kernel_rfl) (by kernel_rfl) .i64 (by kernel_rfl) h0
 go_enter Try.func35, Try.ntmps35
 go_wp2
 go_ret
 exact ⟨rfl, rfl⟩
set_option maxHeartbeats 8000000 in
set_option maxRecDepth 100000 in
theorem at_ustore (g i : Nat) (x y : Int) (w : World) (h0 : w.cell? ⟨g, i, none⟩ = some (.int .u64 x)) (f0 : w.frozen? ⟨g, i, none⟩ = false) :
  Calls Try.prog 73 #[.pointer (some ⟨g, i, none⟩), .int .u64 y] w fun e w' => e = .returned (.tuple #[]) ∧ w' = w.setCell ⟨g, i, none⟩ (.int .u64 y) := by
 have hx := run_call_store (P := Try.prog) Try.func96 (by kernel_rfl) (by kernel_rfl) (by kernel_rfl) (by kernel_rfl) (k := .u64) (y := y) h0 f0
 go_enter Try.func73, Try.ntmps73
 go_wp2
 go_end0
 exact ⟨rfl, rfl⟩
set_option maxHeartbeats 8000000 in
set_option maxRecDepth 100000 in
theorem at_ucas_hit (g i : Nat) (x y : Int) (w : World) (h0 : w.cell? ⟨g, i, none⟩ = some (.int .u64 x)) (f0 : w.frozen? ⟨g, i, none⟩ = false) :
  Calls Try.prog 77 #[.pointer (some ⟨g, i, none⟩), .int .u64 x, .int .u64 y] w fun e w' => e = .returned (.bool true) ∧ w' = w.setCell ⟨g, i, none⟩ (.int .u64 y) := by
 have hx := run_call_cas_hit (P := Try.prog) Try.func97 (by kernel_rfl) (by kernel_rfl) (by kernel_rfl) .u64 (by kernel_rfl) (y := y) h0 f0
 go_enter Try.func77, Try.ntmps77
 go_wp2
 go_ret
 exact ⟨rfl, rfl⟩
set_option maxHeartbeats 8000000 in
set_option maxRecDepth 100000 in
theorem at_ucas_miss (g i : Nat) (x o y : Int) (w : World) (h0 : w.cell? ⟨g, i, none⟩ = some (.int .u64 x)) (f0 : w.frozen? ⟨g, i, none⟩ = false) (hne : ¬ x = o) :
  Calls Try.prog 77 #[.pointer (some ⟨g, i, none⟩), .int .u64 o, .int .u64 y] w fun e w' => e = .returned (.bool false) ∧ w' = w := by
 have hx := run_call_cas_miss (P := Try.prog) Try.func97 (by kernel_rfl) (by kernel_rfl) (by kernel_rfl) .u64 (by kernel_rfl) (o := o) (y := y) h0 f0 hne
 go_enter Try.func77, Try.ntmps77
 go_wp2
 go_ret
 exact ⟨rfl, rfl⟩
set_option maxHeartbeats 8000000 in
set_option maxRecDepth 100000 in
theorem at_iadd (g i : Nat) (x : Int) (w : World) (h0 : w.cell? ⟨g, i, none⟩ = some (.int .i64 x)) (f0 : w.frozen? ⟨g, i, none⟩ = false) :
  Calls Try.prog 95 #[.pointer (some ⟨g, i, none⟩), .int .i64 1] w fun e w' => e = .returned (.int .i64 (wrap64 (x + 1))) ∧ w' = w.setCell ⟨g, i, none⟩ (.int .i64 (wrap64 (x + 1))) := by
 have hx := run_call_add (P := Try.prog) Try.func102 (by kernel_rfl) (by kernel_rfl) (by kernel_rfl) .i64 (by kernel_rfl) (y := 1) (s := wrap64 (x + 1)) h0 f0 (by simp [go_sem, wrap64, IntKind.wrap_i64])
 go_enter Try.func95, Try.ntmps95
 go_wp2
 go_ret
 exact ⟨rfl, rfl⟩
def cInb (ws : List Int) (at_ : Int) : Bool := decide (0 ≤ at_ ∧ at_ < (ws.length : Int))
def cRd (ws : List Int) (at_ : Int) : Int := if cInb ws at_ = true then ws.getD at_.toNat 0 else 0
def cSt (ws : List Int) (st at_ : Int) : Int := if cInb ws at_ = true then wrap64 (st + 1) else st
def cPutW (ws : List Int) (at_ w : Int) : List Int := if cInb ws at_ = true then ws.set at_.toNat w else ws
def cSwB (ws : List Int) (at_ old : Int) : Bool := cInb ws at_ && decide (cRd ws at_ = old)
def cSwW (ws : List Int) (at_ old w : Int) : List Int := if cSwB ws at_ old = true then ws.set at_.toNat w else ws
theorem cInb_len {ws ws' : List Int} (h : ws.length = ws'.length) (at_ : Int) : cInb ws at_ = cInb ws' at_ := by unfold cInb; rw [h]
set_option maxHeartbeats 8000000 in
set_option maxRecDepth 100000 in
theorem cel_Len (gc gw : Nat) (ws : List Int) (st : Int) (W : World) (h : CellsAt W gc gw ws st) :
  Calls Try.prog 27 #[.pointer (some ⟨gc, 0, none⟩)] W fun e w' => e = .returned (.int .i64 ws.length) ∧ w' = W := by
 have h0 := h.slice
 go_enter Try.func27, Try.ntmps27
 go_wp2
 go_ret
 exact ⟨rfl, rfl⟩
set_option maxHeartbeats 8000000 in
set_option maxRecDepth 100000 in
theorem cel_Len_nil (W : World) :
  Calls Try.prog 27 #[.pointer none] W fun e w' => e = .returned (.int .i64 0) ∧ w' = W := by
 go_enter Try.func27, Try.ntmps27
 go_wp2
 go_ret
 exact ⟨rfl, rfl⟩
set_option maxHeartbeats 8000000 in
set_option maxRecDepth 100000 in
theorem cel_Steps (gc gw : Nat) (ws : List Int) (st : Int) (W : World) (h : CellsAt W gc gw ws st) :
  Calls Try.prog 14 #[.pointer (some ⟨gc, 0, none⟩)] W fun e w' => e = .returned (.int .i64 st) ∧ w' = W := by
 have h1 := h.steps
 go_enter Try.func14, Try.ntmps14
 go_wp2_with (first | (go_at_call 35; (with_reducible refine (at_iload gc 1 st _ h1).mono ?_); rintro e w1 ⟨rfl, rfl⟩))
 go_ret
 exact ⟨rfl, rfl⟩
set_option maxHeartbeats 8000000 in
set_option maxRecDepth 100000 in
theorem cel_Steps_nil (W : World) :
  Calls Try.prog 14 #[.pointer none] W fun e w' => e = .returned (.int .i64 0) ∧ w' = W := by
 go_enter Try.func14, Try.ntmps14
 go_wp2
 go_ret
 exact ⟨rfl, rfl⟩
set_option maxHeartbeats 8000000 in
set_option maxRecDepth 100000 in
theorem cel_Peek (gc gw : Nat) (ws : List Int) (st : Int) (at_ : Int) (W : World) (h : CellsAt W gc gw ws st) :
  Calls Try.prog 26 #[.pointer (some ⟨gc, 0, none⟩), .int .i64 at_] W fun e w' => e = .returned (.int .u64 (cRd ws at_)) ∧ w' = W := by
 have h0 := h.slice
 by_cases c1 : at_ < 0
 ·have q : cInb ws at_ = false := decide_eq_false (by omega)
  have e0 : cRd ws at_ = 0 := by unfold cRd; rw [q]; rfl
  rw [e0]
  go_enter Try.func26, Try.ntmps26
  go_wp2_with (first | (go_at_call 27; (with_reducible refine (cel_Len gc gw ws st _ h).mono ?_); rintro e w1 ⟨rfl, rfl⟩))
  go_ret
  exact ⟨rfl, rfl⟩
 ·by_cases c2 : at_ < (ws.length : Int)
  ·have q : cInb ws at_ = true := decide_eq_true (by omega)
   obtain ⟨i, rfl⟩ : ∃ i : Nat, at_ = (i : Int) := ⟨at_.toNat, by omega⟩
   have hi : i < ws.length := by omega
   have e0 : cRd ws (i : Int) = ws.getD i 0 := by unfold cRd; rw [q]; rfl
   rw [e0]
   have h2 := h.word i hi
   generalize ws.getD i 0 = x at h2 ⊢
   go_enter Try.func26, Try.ntmps26
   go_wp2_with (first | (go_at_call 27; (with_reducible refine (cel_Len gc gw ws st _ h).mono ?_); rintro e w1 ⟨rfl, rfl⟩) | (go_at_call 63; (with_reducible refine (at_uload gw i x _ h2).mono ?_); rintro e w1 ⟨rfl, rfl⟩))
   go_ret
   exact ⟨rfl, rfl⟩
  ·have q : cInb ws at_ = false := decide_eq_false (by omega)
   have e0 : cRd ws at_ = 0 := by unfold cRd; rw [q]; rfl
   rw [e0]
   go_enter Try.func26, Try.ntmps26
   go_wp2_with (first | (go_at_call 27; (with_reducible refine (cel_Len gc gw ws st _ h).mono ?_); rintro e w1 ⟨rfl, rfl⟩))
   go_ret
   exact ⟨rfl, rfl⟩
set_option maxHeartbeats 8000000 in
set_option maxRecDepth 100000 in
theorem cel_Peek_nil (at_ : Int) (W : World) :
  Calls Try.prog 26 #[.pointer none, .int .i64 at_] W fun e w' => e = .returned (.int .u64 0) ∧ w' = W := by
 by_cases c1 : at_ < 0
 ·skip
  go_enter Try.func26, Try.ntmps26
  go_wp2_with (first | (go_at_call 27; (with_reducible refine (cel_Len_nil _).mono ?_); rintro e w1 ⟨rfl, rfl⟩))
  go_ret
  exact ⟨rfl, rfl⟩
 ·skip
  go_enter Try.func26, Try.ntmps26
  go_wp2_with (first | (go_at_call 27; (with_reducible refine (cel_Len_nil _).mono ?_); rintro e w1 ⟨rfl, rfl⟩))
  go_ret
  exact ⟨rfl, rfl⟩
set_option maxHeartbeats 8000000 in
set_option maxRecDepth 100000 in
theorem cel_L1 (gw i gb : Nat) (x : Int) (v0 : Value) (W : World) (h0 : W.cell? ⟨gw, i, none⟩ = some (.int .u64 x)) (hb : W.heap[gb]? = some (.cells #[v0] 25 (0, 0))) :
  Calls Try.prog 80 #[.pointer (some ⟨gw, i, none⟩), .pointer (some ⟨gb, 0, none⟩)] W fun e w' => e = .returned (.tuple #[]) ∧ w' = W.setCell ⟨gb, 0, none⟩ (.int .u64 x) := by
 have c0 : W.cell? ⟨gb, 0, none⟩ = some v0 := (blk_cell hb 0).trans rfl
 have f0 : W.frozen? ⟨gb, 0, none⟩ = false := by simp [World.frozen?, hb]
 have HBK := Aside0.mk hb
 clear hb
 go_enter Try.func80, Try.ntmps80
 go_wp2_with (first | (go_at_call 63; (with_reducible refine (at_uload gw i x _ h0).mono ?_); rintro e w1 ⟨rfl, rfl⟩))
 go_end0
 exact ⟨rfl, rfl⟩
set_option maxHeartbeats 8000000 in
set_option maxRecDepth 100000 in
theorem cel_S1 (gw i gb : Nat) (x y : Int) (W : World) (h0 : W.cell? ⟨gw, i, none⟩ = some (.int .u64 x)) (f0 : W.frozen? ⟨gw, i, none⟩ = false) (hb : W.heap[gb]? = some (.cells #[.int .u64 y] 25 (0, 0))) :
  Calls Try.prog 72 #[.pointer (some ⟨gw, i, none⟩), .pointer (some ⟨gb, 0, none⟩)] W fun e w' => e = .returned (.tuple #[]) ∧ w' = W.setCell ⟨gw, i, none⟩ (.int .u64 y) := by
 have c0 : W.cell? ⟨gb, 0, none⟩ = some (.int .u64 y) := (blk_cell hb 0).trans rfl
 have HBK := Aside0.mk hb
 clear hb
 go_enter Try.func72, Try.ntmps72
 go_wp2_with (first | (go_at_call 73; (with_reducible refine (at_ustore gw i x y _ h0 f0).mono ?_); rintro e w1 ⟨rfl, rfl⟩))
 go_end0
 exact ⟨rfl, rfl⟩
set_option maxHeartbeats 8000000 in
set_option maxRecDepth 100000 in
theorem cel_W1_hit (gw i go gn gd : Nat) (x old y : Int) (W : World) (h0 : W.cell? ⟨gw, i, none⟩ = some (.int .u64 x)) (f0 : W.frozen? ⟨gw, i, none⟩ = false) (ho : W.heap[go]? = some (.cells #[.int .u64 old] 25 (0, 0))) (hn : W.heap[gn]? = some (.cells #[.int .u64 y] 25 (0, 0))) (hd : W.heap[gd]? = some (.cells #[.bool false] 4 (0, 0))) (hne : x = old) (hg : ¬ gd = gw) :
  Calls Try.prog 76 #[.pointer (some ⟨gw, i, none⟩), .pointer (some ⟨go, 0, none⟩), .pointer (some ⟨gn, 0, none⟩), .pointer (some ⟨gd, 0, none⟩)] W fun e w' => e = .returned (.tuple #[]) ∧ w' = (W.setCell ⟨gw, i, none⟩ (.int .u64 y)).setCell ⟨gd, 0, none⟩ (.bool true) := by
 subst hne
 have c0 : W.cell? ⟨go, 0, none⟩ = some (.int .u64 x) := (blk_cell ho 0).trans rfl
 have c1 : W.cell? ⟨gn, 0, none⟩ = some (.int .u64 y) := (blk_cell hn 0).trans rfl
 have c2 : W.cell? ⟨gd, 0, none⟩ = some (.bool false) := (blk_cell hd 0).trans rfl
 have f2 : W.frozen? ⟨gd, 0, none⟩ = false := by simp [World.frozen?, hd]
 have hg2 : ¬ gw = gd := fun e => hg e.symm
 clear ho hn hd
 go_enter Try.func76, Try.ntmps76
 go_wp2_with (first | (go_at_call 77; (with_reducible refine (at_ucas_hit gw i x y _ h0 f0).mono ?_); rintro e w1 ⟨rfl, rfl⟩))
 go_end0
 exact ⟨rfl, rfl⟩
set_option maxHeartbeats 8000000 in
set_option maxRecDepth 100000 in
theorem cel_W1_miss (gw i go gn gd : Nat) (x old y : Int) (W : World) (h0 : W.cell? ⟨gw, i, none⟩ = some (.int .u64 x)) (f0 : W.frozen? ⟨gw, i, none⟩ = false) (ho : W.heap[go]? = some (.cells #[.int .u64 old] 25 (0, 0))) (hn : W.heap[gn]? = some (.cells #[.int .u64 y] 25 (0, 0))) (hd : W.heap[gd]? = some (.cells #[.bool false] 4 (0, 0))) (hne : ¬ x = old) (hg : ¬ gd = gw) :
  Calls Try.prog 76 #[.pointer (some ⟨gw, i, none⟩), .pointer (some ⟨go, 0, none⟩), .pointer (some ⟨gn, 0, none⟩), .pointer (some ⟨gd, 0, none⟩)] W fun e w' => e = .returned (.tuple #[]) ∧ w' = W.setCell ⟨gd, 0, none⟩ (.bool false) := by
 have c0 : W.cell? ⟨go, 0, none⟩ = some (.int .u64 old) := (blk_cell ho 0).trans rfl
 have c1 : W.cell? ⟨gn, 0, none⟩ = some (.int .u64 y) := (blk_cell hn 0).trans rfl
 have c2 : W.cell? ⟨gd, 0, none⟩ = some (.bool false) := (blk_cell hd 0).trans rfl
 have f2 : W.frozen? ⟨gd, 0, none⟩ = false := by simp [World.frozen?, hd]
 have hg2 : ¬ gw = gd := fun e => hg e.symm
 clear ho hn hd
 go_enter Try.func76, Try.ntmps76
 go_wp2_with (first | (go_at_call 77; (with_reducible refine (at_ucas_miss gw i x old y _ h0 f0 hne).mono ?_); rintro e w1 ⟨rfl, rfl⟩))
 go_end0
 exact ⟨rfl, rfl⟩
set_option maxHeartbeats 8000000 in
set_option maxRecDepth 100000 in
theorem cel_step_out (gc gw : Nat) (ws : List Int) (st : Int) (at_ : Int) (f : Value) (W : World) (h : CellsAt W gc gw ws st) (q : cInb ws at_ = false) :
  Calls Try.prog 71 #[.pointer (some ⟨gc, 0, none⟩), .int .i64 at_, f] W fun e w' => e = .returned (.tuple #[]) ∧ w' = W := by
 have q1 := of_decide_eq_false q
 by_cases c1 : at_ < 0
 ·clear q q1
  go_enter Try.func71, Try.ntmps71
  go_wp2_with (first | (go_at_call 27; (with_reducible refine (cel_Len gc gw ws st _ h).mono ?_); rintro e w1 ⟨rfl, rfl⟩))
  refine bodyPost_ret (results_none rfl _ _ _) rfl ?_
  exact ⟨rfl, rfl⟩
 ·have c2 : (ws.length : Int) ≤ at_ := by omega
  clear q q1
  go_enter Try.func71, Try.ntmps71
  go_wp2_with (first | (go_at_call 27; (with_reducible refine (cel_Len gc gw ws st _ h).mono ?_); rintro e w1 ⟨rfl, rfl⟩))
  refine bodyPost_ret (results_none rfl _ _ _) rfl ?_
  exact ⟨rfl, rfl⟩
set_option maxHeartbeats 8000000 in
set_option maxRecDepth 100000 in
theorem cel_step_nil (at_ : Int) (f : Value) (W : World) :
  Calls Try.prog 71 #[.pointer none, .int .i64 at_, f] W fun e w' => e = .returned (.tuple #[]) ∧ w' = W := by
 by_cases c1 : at_ < 0
 ·skip
  go_enter Try.func71, Try.ntmps71
  go_wp2_with (first | (go_at_call 27; (with_reducible refine (cel_Len_nil _).mono ?_); rintro e w1 ⟨rfl, rfl⟩))
  refine bodyPost_ret (results_none rfl _ _ _) rfl ?_
  exact ⟨rfl, rfl⟩
 ·skip
  go_enter Try.func71, Try.ntmps71
  go_wp2_with (first | (go_at_call 27; (with_reducible refine (cel_Len_nil _).mono ?_); rintro e w1 ⟨rfl, rfl⟩))
  refine bodyPost_ret (results_none rfl _ _ _) rfl ?_
  exact ⟨rfl, rfl⟩
set_option maxHeartbeats 8000000 in
set_option maxRecDepth 100000 in
theorem cel_step_load (gc gw : Nat) (ws : List Int) (st : Int) (i : Nat) (gb : Nat) (v0 : Value) (W : World) (h : CellsAt W gc gw ws st) (hi : i < ws.length) (hb : W.heap[gb]? = some (.cells #[v0] 25 (0, 0))) (hg1 : gb ≠ gc) (hg2 : gb ≠ gw) :
  Calls Try.prog 71 #[.pointer (some ⟨gc, 0, none⟩), .int .i64 (i : Int), .func (.func 80) #[] #[.pointer (some ⟨gb, 0, none⟩)]] W fun e w' => e = .returned (.tuple #[]) ∧ w' = (W.setCell ⟨gb, 0, none⟩ (.int .u64 (ws.getD i 0))).setCell ⟨gc, 1, none⟩ (.int .i64 (wrap64 (st + 1))) := by
 have c2 : (i : Int) < (ws.length : Int) := by omega
 have h0 := h.slice
 have h1 := h.steps
 have h2 := h.word i hi
 have hf := (h.frz i).2
 have hcon := cel_L1 gw i gb (ws.getD i 0) v0 W h2 hb
 obtain ⟨W1, hW1⟩ : ∃ W1, W.setCell ⟨gb, 0, none⟩ (.int .u64 (ws.getD i 0)) = W1 := ⟨_, rfl⟩
 rw [hW1] at hcon ⊢
 have hA : CellsAt W1 gc gw ws st := by rw [← hW1]; exact h.far hg1 hg2 _
 have k0 := hA.slice
 have k1 := hA.steps
 have kf := (hA.frz 1).1
 have HCON := Aside0.mk hcon
 clear hcon hW1 hA
 go_enter Try.func71, Try.ntmps71
 go_wp2_with (first | (go_at_call 27; (with_reducible refine (cel_Len gc gw ws st _ h).mono ?_); rintro e w1 ⟨rfl, rfl⟩) | (go_at_call 80; (with_reducible refine HCON.out.mono ?_); rintro e w1 ⟨rfl, rfl⟩) | (go_at_call 95; (with_reducible refine (at_iadd gc 1 st _ k1 kf).mono ?_); rintro e w1 ⟨rfl, rfl⟩))
 go_end0
 exact ⟨rfl, rfl⟩
set_option maxHeartbeats 8000000 in
set_option maxRecDepth 100000 in
theorem cel_step_store (gc gw : Nat) (ws : List Int) (st : Int) (i : Nat) (gb : Nat) (y : Int) (W : World) (h : CellsAt W gc gw ws st) (hi : i < ws.length) (hb : W.heap[gb]? = some (.cells #[.int .u64 y] 25 (0, 0))) :
  Calls Try.prog 71 #[.pointer (some ⟨gc, 0, none⟩), .int .i64 (i : Int), .func (.func 72) #[] #[.pointer (some ⟨gb, 0, none⟩)]] W fun e w' => e = .returned (.tuple #[]) ∧ w' = (W.setCell ⟨gw, i, none⟩ (.int .u64 y)).setCell ⟨gc, 1, none⟩ (.int .i64 (wrap64 (st + 1))) := by
 have c2 : (i : Int) < (ws.length : Int) := by omega
 have h0 := h.slice
 have h1 := h.steps
 have h2 := h.word i hi
 have hf := (h.frz i).2
 have hcon := cel_S1 gw i gb (ws.getD i 0) y W h2 hf hb
 obtain ⟨W1, hW1⟩ : ∃ W1, W.setCell ⟨gw, i, none⟩ (.int .u64 y) = W1 := ⟨_, rfl⟩
 rw [hW1] at hcon ⊢
 have hA : CellsAt W1 gc gw (ws.set i y) st := by rw [← hW1]; exact h.put i y
 have k0 := hA.slice
 have k1 := hA.steps
 have kf := (hA.frz 1).1
 have HCON := Aside0.mk hcon
 clear hcon hW1 hA
 go_enter Try.func71, Try.ntmps71
 go_wp2_with (first | (go_at_call 27; (with_reducible refine (cel_Len gc gw ws st _ h).mono ?_); rintro e w1 ⟨rfl, rfl⟩) | (go_at_call 72; (with_reducible refine HCON.out.mono ?_); rintro e w1 ⟨rfl, rfl⟩) | (go_at_call 95; (with_reducible refine (at_iadd gc 1 st _ k1 kf).mono ?_); rintro e w1 ⟨rfl, rfl⟩))
 go_end0
 exact ⟨rfl, rfl⟩
set_option maxHeartbeats 8000000 in
set_option maxRecDepth 100000 in
theorem cel_step_hit (gc gw : Nat) (ws : List Int) (st : Int) (i : Nat) (go gn gd : Nat) (old y : Int) (W : World) (h : CellsAt W gc gw ws st) (hi : i < ws.length) (ho : W.heap[go]? = some (.cells #[.int .u64 old] 25 (0, 0))) (hn : W.heap[gn]? = some (.cells #[.int .u64 y] 25 (0, 0))) (hd : W.heap[gd]? = some (.cells #[.bool false] 4 (0, 0))) (hg1 : gd ≠ gc) (hg2 : gd ≠ gw) (hne : ws.getD i 0 = old) :
  Calls Try.prog 71 #[.pointer (some ⟨gc, 0, none⟩), .int .i64 (i : Int), .func (.func 76) #[] #[.pointer (some ⟨go, 0, none⟩), .pointer (some ⟨gn, 0, none⟩), .pointer (some ⟨gd, 0, none⟩)]] W fun e w' => e = .returned (.tuple #[]) ∧ w' = ((W.setCell ⟨gw, i, none⟩ (.int .u64 y)).setCell ⟨gd, 0, none⟩ (.bool true)).setCell ⟨gc, 1, none⟩ (.int .i64 (wrap64 (st + 1))) := by
 have c2 : (i : Int) < (ws.length : Int) := by omega
 have h0 := h.slice
 have h1 := h.steps
 have h2 := h.word i hi
 have hf := (h.frz i).2
 have hcon := cel_W1_hit gw i go gn gd (ws.getD i 0) old y W h2 hf ho hn hd hne hg2
 obtain ⟨W1, hW1⟩ : ∃ W1, (W.setCell ⟨gw, i, none⟩ (.int .u64 y)).setCell ⟨gd, 0, none⟩ (.bool true) = W1 := ⟨_, rfl⟩
 rw [hW1] at hcon ⊢
 have hA : CellsAt W1 gc gw (ws.set i y) st := by rw [← hW1]; exact (h.put i y).far hg1 hg2 _
 have k0 := hA.slice
 have k1 := hA.steps
 have kf := (hA.frz 1).1
 have HCON := Aside0.mk hcon
 clear hcon hW1 hA
 go_enter Try.func71, Try.ntmps71
 go_wp2_with (first | (go_at_call 27; (with_reducible refine (cel_Len gc gw ws st _ h).mono ?_); rintro e w1 ⟨rfl, rfl⟩) | (go_at_call 76; (with_reducible refine HCON.out.mono ?_); rintro e w1 ⟨rfl, rfl⟩) | (go_at_call 95; (with_reducible refine (at_iadd gc 1 st _ k1 kf).mono ?_); rintro e w1 ⟨rfl, rfl⟩))
 go_end0
 exact ⟨rfl, rfl⟩
set_option maxHeartbeats 8000000 in
set_option maxRecDepth 100000 in
theorem cel_step_miss (gc gw : Nat) (ws : List Int) (st : Int) (i : Nat) (go gn gd : Nat) (old y : Int) (W : World) (h : CellsAt W gc gw ws st) (hi : i < ws.length) (ho : W.heap[go]? = some (.cells #[.int .u64 old] 25 (0, 0))) (hn : W.heap[gn]? = some (.cells #[.int .u64 y] 25 (0, 0))) (hd : W.heap[gd]? = some (.cells #[.bool false] 4 (0, 0))) (hg1 : gd ≠ gc) (hg2 : gd ≠ gw) (hne : ¬ ws.getD i 0 = old) :
  Calls Try.prog 71 #[.pointer (some ⟨gc, 0, none⟩), .int .i64 (i : Int), .func (.func 76) #[] #[.pointer (some ⟨go, 0, none⟩), .pointer (some ⟨gn, 0, none⟩), .pointer (some ⟨gd, 0, none⟩)]] W fun e w' => e = .returned (.tuple #[]) ∧ w' = (W.setCell ⟨gd, 0, none⟩ (.bool false)).setCell ⟨gc, 1, none⟩ (.int .i64 (wrap64 (st + 1))) := by
 have c2 : (i : Int) < (ws.length : Int) := by omega
 have h0 := h.slice
 have h1 := h.steps
 have h2 := h.word i hi
 have hf := (h.frz i).2
 have hcon := cel_W1_miss gw i go gn gd (ws.getD i 0) old y W h2 hf ho hn hd hne hg2
 obtain ⟨W1, hW1⟩ : ∃ W1, W.setCell ⟨gd, 0, none⟩ (.bool false) = W1 := ⟨_, rfl⟩
 rw [hW1] at hcon ⊢
 have hA : CellsAt W1 gc gw ws st := by rw [← hW1]; exact h.far hg1 hg2 _
 have k0 := hA.slice
 have k1 := hA.steps
 have kf := (hA.frz 1).1
 have HCON := Aside0.mk hcon
 clear hcon hW1 hA
 go_enter Try.func71, Try.ntmps71
 go_wp2_with (first | (go_at_call 27; (with_reducible refine (cel_Len gc gw ws st _ h).mono ?_); rintro e w1 ⟨rfl, rfl⟩) | (go_at_call 76; (with_reducible refine HCON.out.mono ?_); rintro e w1 ⟨rfl, rfl⟩) | (go_at_call 95; (with_reducible refine (at_iadd gc 1 st _ k1 kf).mono ?_); rintro e w1 ⟨rfl, rfl⟩))
 go_end0
 exact ⟨rfl, rfl⟩
set_option maxHeartbeats 8000000 in
set_option maxRecDepth 100000 in
theorem cel_Load (gc gw : Nat) (ws : List Int) (st : Int) (at_ : Int) (W : World) (h : CellsAt W gc gw ws st) :
  Calls Try.prog 45 #[.pointer (some ⟨gc, 0, none⟩), .int .i64 at_] W fun e w' => e = .returned (.int .u64 (cRd ws at_)) ∧ CellsAt w' gc gw (ws) (cSt ws st at_) ∧ Touch (fun k => k = gc ∨ k = gw) W w' := by
 have hmf : ∀ (fn : Fn) (first cap : Array Value) (w : World), (Instr.makeFunc fn first cap).run Try.prog w = .ok (.func fn first cap) w := fun _ _ _ _ => rfl
 have n1 : W.heap.size ≠ gc := by have := h.lt; omega
 have n2 : W.heap.size ≠ gw := by have := h.lt; omega
 cases q : cInb ws at_ with
 | false =>
  have e0 : cRd ws at_ = 0 := by unfold cRd; rw [q]; rfl
  have e1 : cSt ws st at_ = st := by unfold cSt; rw [q]; rfl
  rw [e0, e1]
  go_enter Try.func45, Try.ntmps45
  go_wp2_with (first | (go_at_call 71; (with_reducible refine (cel_step_out gc gw ws st at_ _ _ (h.below (below_alloc (Below.refl _ _) _)) q).mono ?_); rintro e w1 ⟨rfl, hw⟩; have hA := Aside0.mk (show CellsAt w1 gc gw ws st from by rw [hw]; exact (h.below (below_alloc (Below.refl _ _) _))); have hB : w1.cell? ⟨W.heap.size, 0, none⟩ = some (.int .u64 0) := (by rw [hw]; exact (blk_cell (blk_new W _) 0).trans rfl); have hT := Aside0.mk (show Touch (fun k => k = gc ∨ k = gw) W w1 from by rw [hw]; exact (Touch.refl _ W).alloc _); clear hw))
  go_ret
  exact ⟨rfl, hA.out, hT.out⟩
 | true =>
  have q1 := of_decide_eq_true q
  obtain ⟨i, rfl⟩ : ∃ i : Nat, at_ = (i : Int) := ⟨at_.toNat, by omega⟩
  have hi : i < ws.length := by omega
  have e0 : cRd ws (i : Int) = ws.getD i 0 := by unfold cRd; rw [q]; rfl
  have e1 : cSt ws st (i : Int) = wrap64 (st + 1) := by unfold cSt; rw [q]; rfl
  rw [e0, e1]
  clear q q1
  go_enter Try.func45, Try.ntmps45
  go_wp2_with (first | (go_at_call 71; (with_reducible refine (cel_step_load gc gw ws st i W.heap.size (.int .u64 0) _ (h.below (below_alloc (Below.refl _ _) _)) hi (blk_new W _) n1 n2).mono ?_); rintro e w1 ⟨rfl, hw⟩; have hA := Aside0.mk (show CellsAt w1 gc gw ws (wrap64 (st + 1)) from by rw [hw]; exact ((h.below (below_alloc (Below.refl _ _) _)).far n1 n2 _).step _); have hB : w1.cell? ⟨W.heap.size, 0, none⟩ = some (.int .u64 (ws.getD i 0)) := (by rw [hw]; exact (blk_cell (cel_far (cel_put (blk_new W _) _) n1 _) 0).trans rfl); have hT := Aside0.mk (show Touch (fun k => k = gc ∨ k = gw) W w1 from by rw [hw]; exact (((Touch.refl _ W).alloc _).set (.inr (Nat.le_refl _)) _).set (.inl (.inl rfl)) _); clear hw))
  go_ret
  exact ⟨by first | rfl | (simp [List.getD, hi]; done), hA.out, hT.out⟩
set_option maxHeartbeats 8000000 in
set_option maxRecDepth 100000 in
theorem cel_Store (gc gw : Nat) (ws : List Int) (st : Int) (at_ y : Int) (W : World) (h : CellsAt W gc gw ws st) :
  Calls Try.prog 36 #[.pointer (some ⟨gc, 0, none⟩), .int .i64 at_, .int .u64 y] W fun e w' => e = .returned (.tuple #[]) ∧ CellsAt w' gc gw (cPutW ws at_ y) (cSt ws st at_) ∧ Touch (fun k => k = gc ∨ k = gw) W w' := by
 have hmf : ∀ (fn : Fn) (first cap : Array Value) (w : World), (Instr.makeFunc fn first cap).run Try.prog w = .ok (.func fn first cap) w := fun _ _ _ _ => rfl
 have n1 : W.heap.size ≠ gc := by have := h.lt; omega
 have n2 : W.heap.size ≠ gw := by have := h.lt; omega
 cases q : cInb ws at_ with
 | false =>
  have e0 : cPutW ws at_ y = ws := by unfold cPutW; rw [q]; rfl
  have e1 : cSt ws st at_ = st := by unfold cSt; rw [q]; rfl
  rw [e0, e1]
  go_enter Try.func36, Try.ntmps36
  go_wp2_with (first | (go_at_call 71; (with_reducible refine (cel_step_out gc gw ws st at_ _ _ (h.below (below_alloc (Below.refl _ _) _)) q).mono ?_); rintro e w1 ⟨rfl, hw⟩; have hA := Aside0.mk (show CellsAt w1 gc gw ws st from by rw [hw]; exact (h.below (below_alloc (Below.refl _ _) _))); have hT := Aside0.mk (show Touch (fun k => k = gc ∨ k = gw) W w1 from by rw [hw]; exact (Touch.refl _ W).alloc _); clear hw))
  go_end0
  exact ⟨rfl, hA.out, hT.out⟩
 | true =>
  have q1 := of_decide_eq_true q
  obtain ⟨i, rfl⟩ : ∃ i : Nat, at_ = (i : Int) := ⟨at_.toNat, by omega⟩
  have hi : i < ws.length := by omega
  have e0 : cPutW ws (i : Int) y = ws.set i y := by unfold cPutW; rw [q]; rfl
  have e1 : cSt ws st (i : Int) = wrap64 (st + 1) := by unfold cSt; rw [q]; rfl
  rw [e0, e1]
  clear q q1
  go_enter Try.func36, Try.ntmps36
  go_wp2_with (first | (go_at_call 71; (with_reducible refine (cel_step_store gc gw ws st i W.heap.size y _ (h.below (below_alloc (Below.refl _ _) _)) hi (blk_new W _)).mono ?_); rintro e w1 ⟨rfl, hw⟩; have hA := Aside0.mk (show CellsAt w1 gc gw (ws.set i y) (wrap64 (st + 1)) from by rw [hw]; exact ((h.below (below_alloc (Below.refl _ _) _)).put i y).step _); have hT := Aside0.mk (show Touch (fun k => k = gc ∨ k = gw) W w1 from by rw [hw]; exact (((Touch.refl _ W).alloc _).set (.inl (.inr rfl)) _).set (.inl (.inl rfl)) _); clear hw))
  go_end0
  exact ⟨rfl, hA.out, hT.out⟩
set_option maxHeartbeats 8000000 in
set_option maxRecDepth 100000 in
theorem cel_Swap (gc gw : Nat) (ws : List Int) (st : Int) (at_ old y : Int) (W : World) (h : CellsAt W gc gw ws st) :
  Calls Try.prog 40 #[.pointer (some ⟨gc, 0, none⟩), .int .i64 at_, .int .u64 old, .int .u64 y] W fun e w' => e = .returned (.bool (cSwB ws at_ old)) ∧ CellsAt w' gc gw (cSwW ws at_ old y) (cSt ws st at_) ∧ Touch (fun k => k = gc ∨ k = gw) W w' := by
 have hmf : ∀ (fn : Fn) (first cap : Array Value) (w : World), (Instr.makeFunc fn first cap).run Try.prog w = .ok (.func fn first cap) w := fun _ _ _ _ => rfl
 have n1 : W.heap.size + 1 + 1 ≠ gc := by have := h.lt; omega
 have n2 : W.heap.size + 1 + 1 ≠ gw := by have := h.lt; omega
 have HBO := Aside0.mk (show (((W.alloc (.cells #[.int .u64 old] 25)).alloc (.cells #[.int .u64 y] 25)).alloc (.cells #[.bool false] 4)).heap[W.heap.size]? = some (.cells #[.int .u64 old] 25 (0, 0)) from blk_below (blk_below (blk_new W _) (below_alloc (Below.refl _ _) _)) (below_alloc (Below.refl _ _) _))
 have HBN := Aside0.mk (show (((W.alloc (.cells #[.int .u64 old] 25)).alloc (.cells #[.int .u64 y] 25)).alloc (.cells #[.bool false] 4)).heap[W.heap.size + 1]? = some (.cells #[.int .u64 y] 25 (0, 0)) from by have h1 := blk_below (blk_new (W.alloc (.cells #[.int .u64 old] 25)) (.cells #[.int .u64 y] 25)) (below_alloc (Below.refl _ _) (.cells #[.bool false] 4)); simpa using h1)
 have HBD := Aside0.mk (show (((W.alloc (.cells #[.int .u64 old] 25)).alloc (.cells #[.int .u64 y] 25)).alloc (.cells #[.bool false] 4)).heap[W.heap.size + 1 + 1]? = some (.cells #[.bool false] 4 (0, 0)) from by have h1 := blk_new ((W.alloc (.cells #[.int .u64 old] 25)).alloc (.cells #[.int .u64 y] 25)) (.cells #[.bool false] 4); simpa using h1)
 cases q : cInb ws at_ with
 | false =>
  have e2 : cSwB ws at_ old = false := by unfold cSwB; rw [q]; rfl
  have e0 : cSwW ws at_ old y = ws := by unfold cSwW; rw [e2]; rfl
  have e1 : cSt ws st at_ = st := by unfold cSt; rw [q]; rfl
  rw [e0, e1, e2]
  go_enter Try.func40, Try.ntmps40
  go_wp2_with (first | (go_at_call 71; (with_reducible refine (cel_step_out gc gw ws st at_ _ _ (h.below (below_alloc (below_alloc (below_alloc (Below.refl _ _) _) _) _)) q).mono ?_); rintro e w1 ⟨rfl, hw⟩; have hA := Aside0.mk (show CellsAt w1 gc gw ws st from by rw [hw]; exact (h.below (below_alloc (below_alloc (below_alloc (Below.refl _ _) _) _) _))); have hB : w1.cell? ⟨W.heap.size + 1 + 1, 0, none⟩ = some (.bool false) := (by rw [hw]; exact (blk_cell (HBD.out) 0).trans rfl); have hT := Aside0.mk (show Touch (fun k => k = gc ∨ k = gw) W w1 from by rw [hw]; exact ((((Touch.refl (fun k => k = gc ∨ k = gw) W).alloc _).alloc _).alloc _)); clear hw))
  go_ret
  exact ⟨rfl, hA.out, hT.out⟩
 | true =>
  have q1 := of_decide_eq_true q
  obtain ⟨i, rfl⟩ : ∃ i : Nat, at_ = (i : Int) := ⟨at_.toNat, by omega⟩
  have hi : i < ws.length := by omega
  have e1 : cSt ws st (i : Int) = wrap64 (st + 1) := by unfold cSt; rw [q]; rfl
  have e3 : cRd ws (i : Int) = ws.getD i 0 := by unfold cRd; rw [q]; rfl
  rw [e1]
  by_cases c : ws.getD i 0 = old
  ·have e2 : cSwB ws (i : Int) old = true := by unfold cSwB; rw [q, e3, decide_eq_true c]; rfl
   have e0 : cSwW ws (i : Int) old y = ws.set i y := by unfold cSwW; rw [e2]; rfl
   rw [e0, e2]
   have HCC := Aside0.mk c
   clear q q1 c e1 e3 e2 e0
   go_enter Try.func40, Try.ntmps40
   go_wp2_with (first | (go_at_call 71; (with_reducible refine (cel_step_hit gc gw ws st i W.heap.size (W.heap.size + 1) (W.heap.size + 1 + 1) old y _ (h.below (below_alloc (below_alloc (below_alloc (Below.refl _ _) _) _) _)) hi HBO.out HBN.out HBD.out n1 n2 HCC.out).mono ?_); rintro e w1 ⟨rfl, hw⟩; have hA := Aside0.mk (show CellsAt w1 gc gw (ws.set i y) (wrap64 (st + 1)) from by rw [hw]; exact (((h.below (below_alloc (below_alloc (below_alloc (Below.refl _ _) _) _) _)).put i y).far n1 n2 _).step _); have hB : w1.cell? ⟨W.heap.size + 1 + 1, 0, none⟩ = some (.bool true) := (by rw [hw]; exact (blk_cell (cel_far (cel_put (cel_far HBD.out n2 _) _) n1 _) 0).trans rfl); have hT := Aside0.mk (show Touch (fun k => k = gc ∨ k = gw) W w1 from by rw [hw]; exact ((((((Touch.refl (fun k => k = gc ∨ k = gw) W).alloc _).alloc _).alloc _).set (.inl (.inr rfl)) _).set (.inr (by omega)) _).set (.inl (.inl rfl)) _); clear hw))
   go_ret
   exact ⟨rfl, hA.out, hT.out⟩
  ·have e2 : cSwB ws (i : Int) old = false := by unfold cSwB; rw [q, e3, decide_eq_false c]; rfl
   have e0 : cSwW ws (i : Int) old y = ws := by unfold cSwW; rw [e2]; rfl
   rw [e0, e2]
   have HCC := Aside0.mk c
   clear q q1 c e1 e3 e2 e0
   go_enter Try.func40, Try.ntmps40
   go_wp2_with (first | (go_at_call 71; (with_reducible refine (cel_step_miss gc gw ws st i W.heap.size (W.heap.size + 1) (W.heap.size + 1 + 1) old y _ (h.below (below_alloc (below_alloc (below_alloc (Below.refl _ _) _) _) _)) hi HBO.out HBN.out HBD.out n1 n2 HCC.out).mono ?_); rintro e w1 ⟨rfl, hw⟩; have hA := Aside0.mk (show CellsAt w1 gc gw ws (wrap64 (st + 1)) from by rw [hw]; exact ((h.below (below_alloc (below_alloc (below_alloc (Below.refl _ _) _) _) _)).far n1 n2 _).step _); have hB : w1.cell? ⟨W.heap.size + 1 + 1, 0, none⟩ = some (.bool false) := (by rw [hw]; exact (blk_cell (cel_far (cel_put HBD.out _) n1 _) 0).trans rfl); have hT := Aside0.mk (show Touch (fun k => k = gc ∨ k = gw) W w1 from by rw [hw]; exact (((((Touch.refl (fun k => k = gc ∨ k = gw) W).alloc _).alloc _).alloc _).set (.inr (by omega)) _).set (.inl (.inl rfl)) _); clear hw))
   go_ret
   exact ⟨rfl, hA.out, hT.out⟩
set_option maxHeartbeats 8000000 in
set_option maxRecDepth 100000 in
theorem cel_Load_nil (at_ : Int) (W : World) :
  Calls Try.prog 45 #[.pointer none, .int .i64 at_] W fun e w' => e = .returned (.int .u64 0) ∧ Below W.heap.size W w' := by
 have hmf : ∀ (fn : Fn) (first cap : Array Value) (w : World), (Instr.makeFunc fn first cap).run Try.prog w = .ok (.func fn first cap) w := fun _ _ _ _ => rfl
 go_enter Try.func45, Try.ntmps45
 go_wp2_with (first | (go_at_call 71; (with_reducible refine (cel_step_nil at_ _ _).mono ?_); rintro e w1 ⟨rfl, rfl⟩))
 go_ret
 exact ⟨rfl, below_alloc (Below.refl _ _) _⟩
set_option maxHeartbeats 8000000 in
set_option maxRecDepth 100000 in
theorem cel_Store_nil (at_ y : Int) (W : World) :
  Calls Try.prog 36 #[.pointer none, .int .i64 at_, .int .u64 y] W fun e w' => e = .returned (.tuple #[]) ∧ Below W.heap.size W w' := by
 have hmf : ∀ (fn : Fn) (first cap : Array Value) (w : World), (Instr.makeFunc fn first cap).run Try.prog w = .ok (.func fn first cap) w := fun _ _ _ _ => rfl
 go_enter Try.func36, Try.ntmps36
 go_wp2_with (first | (go_at_call 71; (with_reducible refine (cel_step_nil at_ _ _).mono ?_); rintro e w1 ⟨rfl, rfl⟩))
 go_end0
 exact ⟨rfl, below_alloc (Below.refl _ _) _⟩
set_option maxHeartbeats 8000000 in
set_option maxRecDepth 100000 in
theorem cel_Swap_nil (at_ old y : Int) (W : World) :
  Calls Try.prog 40 #[.pointer none, .int .i64 at_, .int .u64 old, .int .u64 y] W fun e w' => e = .returned (.bool false) ∧ Below W.heap.size W w' := by
 have hmf : ∀ (fn : Fn) (first cap : Array Value) (w : World), (Instr.makeFunc fn first cap).run Try.prog w = .ok (.func fn first cap) w := fun _ _ _ _ => rfl
 go_enter Try.func40, Try.ntmps40
 go_wp2_with (first | (go_at_call 71; (with_reducible refine (cel_step_nil at_ _ _).mono ?_); rintro e w1 ⟨rfl, rfl⟩))
 go_ret
 exact ⟨rfl, below_alloc (below_alloc (below_alloc (Below.refl _ _) _) _) _⟩
theorem cel_info : (Try.prog.info? 101).map (fun i => (i.zero, i.size, i.bytes)) = some (some (.agg #[.int .u64 0]), 1, 8) := by kernel_rfl
def cNew (many : Int) : Nat := if many < 0 ∨ 1048576 < many then 0 else many.toNat
theorem cel_made {w : World} {N g n : Nat} (h : w.ownsRow N 101 1 (.slice (some ⟨g, 0, none⟩) n n) n (madeCells (Value.agg #[.int .u64 0]).cells (n * 1)).toList) : w.heap[g]? = some (.cells ((List.replicate n (0 : Int)).map (Value.int .u64)).toArray 101 (0, 0)) := by
 rcases h.2 with ⟨he, _⟩ | ⟨g', cap, cur, he, _, hh, _, _, h5, h6⟩
 ·cases he
 ·cases he
  rw [hh]
  have e1 : cur.toList = (madeCells (Value.agg #[.int .u64 0]).cells (n * 1)).toList := by rw [← h6, List.take_of_length_le (by rw [Array.length_toList, h5]; exact Nat.le_refl _)]
  have e2 : (madeCells (Value.agg #[.int .u64 0]).cells (n * 1)).toList = List.replicate n (Value.int .u64 0) := by rw [Nat.mul_one]; exact toList_madeCells_one _ _
  rw [List.map_replicate, ← e2, ← e1, Array.toArray_toList]
set_option maxHeartbeats 8000000 in
set_option maxRecDepth 100000 in
theorem cel_New (many : Int) (W : World) :
  Calls Try.prog 33 #[.int .i64 many] W fun e w' => ∃ gc gw, e = .returned (.pointer (some ⟨gc, 0, none⟩)) ∧ CellsAt w' gc gw (List.replicate (cNew many) 0) 0 ∧ W.heap.size ≤ gw ∧ W.heap.size ≤ gc ∧ Below W.heap.size W w' := by
 obtain ⟨i0, hi, hz0, hz1, hz2⟩ := info_parts cel_info
 by_cases c1 : many < 0
 ·have e0 : cNew many = 0 := if_pos (.inl c1)
  rw [e0]
  clear e0
  go_enter Try.func33, Try.ntmps33
  go_wp2_with (first | (at_make; refine wpList_make_full _ rfl _ _ 75 rfl W.heap.size 101 i0 (.agg #[.int .u64 0]) 1 Try.underlying75 hi hz0 hz1 .i64 .i64 _ _ 0 (by rfl) (by rfl) rfl rfl ?mb1a ?mb2a (Nat.le_refl _) ?_; rotate_right; intro w1 hown hgrow; have HM1 := Aside0.mk (cel_made hown); have HG1 := Aside0.mk hgrow; clear hown hgrow))
  all_goals first | (rw [hz2]; omega) | (unfold maxLen; omega) | omega | skip
  go_ret
  have hsz := blk_lt HM1.out
  have hb1 : Below W.heap.size W w1 := (Below.refl _ W).grown HG1.out (Nat.le_refl _) (fun k hk => by cases hk)
  first | refine ⟨w1.heap.size, W.heap.size, rfl, ⟨?_, blk_below HM1.out (below_alloc (Below.refl _ _) _), by omega⟩, Nat.le_refl _, by omega, below_step hb1 (below_alloc (Below.refl _ _) _)⟩ | refine ⟨w1.heap.size, rfl, W.heap.size, ⟨?_, blk_below HM1.out (below_alloc (Below.refl _ _) _), by omega⟩, Nat.le_refl _, by omega, below_step hb1 (below_alloc (Below.refl _ _) _)⟩
  have hnew := blk_new w1 (.cells #[.slice (some ⟨W.heap.size, 0, none⟩) 0 0, .int .i64 0] 82)
  simpa using hnew
 ·by_cases c2 : 1048576 < many
  ·have e0 : cNew many = 0 := if_pos (.inr c2)
   rw [e0]
   clear e0
   go_enter Try.func33, Try.ntmps33
   go_wp2_with (first | (at_make; refine wpList_make_full _ rfl _ _ 75 rfl W.heap.size 101 i0 (.agg #[.int .u64 0]) 1 Try.underlying75 hi hz0 hz1 .i64 .i64 _ _ 0 (by rfl) (by rfl) rfl rfl ?mb1b ?mb2b (Nat.le_refl _) ?_; rotate_right; intro w1 hown hgrow; have HM1 := Aside0.mk (cel_made hown); have HG1 := Aside0.mk hgrow; clear hown hgrow))
   all_goals first | (rw [hz2]; omega) | (unfold maxLen; omega) | omega | skip
   go_ret
   have hsz := blk_lt HM1.out
   have hb1 : Below W.heap.size W w1 := (Below.refl _ W).grown HG1.out (Nat.le_refl _) (fun k hk => by cases hk)
   first | refine ⟨w1.heap.size, W.heap.size, rfl, ⟨?_, blk_below HM1.out (below_alloc (Below.refl _ _) _), by omega⟩, Nat.le_refl _, by omega, below_step hb1 (below_alloc (Below.refl _ _) _)⟩ | refine ⟨w1.heap.size, rfl, W.heap.size, ⟨?_, blk_below HM1.out (below_alloc (Below.refl _ _) _), by omega⟩, Nat.le_refl _, by omega, below_step hb1 (below_alloc (Below.refl _ _) _)⟩
   have hnew := blk_new w1 (.cells #[.slice (some ⟨W.heap.size, 0, none⟩) 0 0, .int .i64 0] 82)
   simpa using hnew
  ·have e0 : cNew many = many.toNat := if_neg (by omega)
   rw [e0]
   clear e0
   obtain ⟨n, rfl⟩ : ∃ n : Nat, many = (n : Int) := ⟨many.toNat, by omega⟩
   rw [show ((n : Int)).toNat = n from rfl]
   go_enter Try.func33, Try.ntmps33
   go_wp2_with (first | (at_make; refine wpList_make_full _ rfl _ _ 75 rfl W.heap.size 101 i0 (.agg #[.int .u64 0]) 1 Try.underlying75 hi hz0 hz1 .i64 .i64 _ _ n (by rfl) (by rfl) rfl rfl ?mb1c ?mb2c (Nat.le_refl _) ?_; rotate_right; intro w1 hown hgrow; have HM1 := Aside0.mk (cel_made hown); have HG1 := Aside0.mk hgrow; clear hown hgrow))
   all_goals first | (rw [hz2]; omega) | (unfold maxLen; omega) | omega | skip
   go_ret
   have hsz := blk_lt HM1.out
   have hb1 : Below W.heap.size W w1 := (Below.refl _ W).grown HG1.out (Nat.le_refl _) (fun k hk => by cases hk)
   first | refine ⟨w1.heap.size, W.heap.size, rfl, ⟨?_, blk_below HM1.out (below_alloc (Below.refl _ _) _), by omega⟩, Nat.le_refl _, by omega, below_step hb1 (below_alloc (Below.refl _ _) _)⟩ | refine ⟨w1.heap.size, rfl, W.heap.size, ⟨?_, blk_below HM1.out (below_alloc (Below.refl _ _) _), by omega⟩, Nat.le_refl _, by omega, below_step hb1 (below_alloc (Below.refl _ _) _)⟩
   have hnew := blk_new w1 (.cells #[.slice (some ⟨W.heap.size, 0, none⟩) n n, .int .i64 0] 82)
   simpa using hnew
theorem snocInd {α : Type} {motive : List α → Prop} (nil : motive []) (snoc : ∀ l x, motive l → motive (l ++ [x])) (l : List α) : motive l := by
 have h : ∀ r : List α, motive r.reverse := by
  intro r
  induction r with
  | nil => exact nil
  | cons x t ih => rw [List.reverse_cons]; exact snoc _ _ ih
 have := h l.reverse
 rwa [List.reverse_reverse] at this
theorem Touch.grown {S : Nat → Prop} {w0 w w1 : World} (h : Touch S w0 w) {g : Nat} (k : w.grownBy w1 (some g)) (hg : S g ∨ w0.heap.size ≤ g) : Touch S w0 w1 :=
 ⟨k.os.trans h.os, k.tape.trans h.tape, k.output.trans h.output, Nat.le_trans h.size k.size, fun j hj hs => (k.block j (Nat.lt_of_lt_of_le hj h.size) (fun e => by cases e; exact hg.elim hs (fun h => by omega))).trans (h.block j hj hs)⟩
def hvH (v : Value) : Option (DataW Value × List MemPlace) := some (.held v, [])
def kL (k : Int) : Lit := .int .i64 k
def dmap (m : List (Int × Value)) : DataW Value := m.foldl (fun D x => D.put (kL x.1) (.held x.2)) (.map [])
def lkL (m : List (Int × Value)) (k : Int) : Option Value := m.foldl (fun r x => if x.1 = k then some x.2 else r) none
theorem dmap_snoc (m : List (Int × Value)) (x : Int × Value) : dmap (m ++ [x]) = (dmap m).put (kL x.1) (.held x.2) := by unfold dmap; rw [List.foldl_append]; rfl
theorem lkL_snoc (m : List (Int × Value)) (x : Int × Value) (k : Int) : lkL (m ++ [x]) k = if x.1 = k then some x.2 else lkL m k := by unfold lkL; rw [List.foldl_append]; rfl
theorem dmap_isMap (m : List (Int × Value)) : Maps.IsMap (dmap m) := by
 induction m using snocInd with
 | nil => exact Maps.isMap_empty
 | snoc m x ih => rw [dmap_snoc]; exact ih.put _ _
theorem kL_ne {a b : Int} (h : a ≠ b) : kL a ≠ kL b := fun e => h (by unfold kL at e; injection e)
theorem dmap_look (m : List (Int × Value)) (k : Int) (z : Value) : (dmap m).atKey (kL k) (.held z) = .held ((lkL m k).getD z) ∧ Maps.has (dmap m) (kL k) = (lkL m k).isSome := by
 induction m using snocInd with
 | nil => exact ⟨rfl, rfl⟩
 | snoc m x ih =>
  rw [dmap_snoc, lkL_snoc]
  by_cases e : x.1 = k
  ·have hk : WideAt.IsKeyLit (kL k) := trivial
   rw [if_pos e, e, Maps.atKey_put_same (dmap_isMap m) hk, Maps.has_put_same (dmap_isMap m) hk]
   exact ⟨rfl, rfl⟩
  ·rw [if_neg e, Maps.atKey_put_other (kL_ne (Ne.symm e)), Maps.has_put_other (kL_ne (Ne.symm e))]
   exact ih
theorem wpList_lookup_held {P : Program} (w : World) {ops : Array Oper} {rest : List Oper} {o : Oper} {a : Act} {Q : Exit → Act → World → Prop} (hg : o.guard = none) (m x : Operand) (t : TypeId) (hop : o.op = Op.lookup t m x true)
  (k e : TypeId) (K : Maps.Keyed P k) (ht : P.underlying t = some (.map k e)) {z : Value} (hz : ∀ w, (zeroValue e).run P w = .ok z w) (b n : Nat) (ms : List (Int × Value))
  (hm : a.eval m = .map (some b)) (hown : w.ownsMap P k hvH b n (dmap ms)) (key : Int) (hx : a.eval x = .int .i64 key) (hkey : keyOf P k (.int .i64 key) = some (kL key)) (r : Option Value) (hr : lkL ms key = r)
  (hK : wpList P ops Q rest (a.put o.dst (.tuple #[r.getD z, .bool r.isSome])) w) :
  wpList P ops Q (o :: rest) a w := by
 have hd := dmap_look ms key z
 rw [hr] at hd
 refine wpList_lookup_own_ok w hg m x t hop k e K ht hvH (hz w) (.held z) [] rfl b n (dmap ms) hm hown (.int .i64 key) (kL key) hx hkey (fun v ps hv2 => ?_)
 have e1 : v = r.getD z := by
  have : DataW.held v = DataW.held (r.getD z) := by
   have h2 := congrArg Prod.fst (Option.some.inj hv2)
   exact h2.trans hd.1
  injection this
 rw [e1, hd.2]
 exact hK
structure RB where
 c : S23
 calls : List Int
 ins : List Int
 made : List Int
 ops : List S161
 nodes : List S163
def vC (x : S159) : Value := .agg #[.int .i64 x.f0, .int .u64 x.f1, .int .u64 x.f2, .int .i64 x.f3]
def mapO (l : List S161) : List (Int × Value) := l.map (fun x => (x.f0, vC x.f1))
def mapN (l : List S163) : List (Int × Value) := l.map (fun x => (x.f0, .int .i64 x.f1))
def opOf (l : List S161) (k : Int) : Option S159 := l.foldl (fun r x => if x.f0 = k then some x.f1 else r) none
def ndOf (l : List S163) (k : Int) : Option Int := l.foldl (fun r x => if x.f0 = k then some x.f1 else r) none
theorem lkO (l : List S161) (k : Int) : lkL (mapO l) k = (opOf l k).map vC := by
 induction l using snocInd with
 | nil => rfl
 | snoc l x ih =>
  have h1 : mapO (l ++ [x]) = mapO l ++ [(x.f0, vC x.f1)] := by simp [mapO]
  have h2 : opOf (l ++ [x]) k = if x.f0 = k then some x.f1 else opOf l k := by unfold opOf; rw [List.foldl_append]; rfl
  rw [h1, lkL_snoc, h2, ih]
  dsimp only
  split <;> rfl
theorem lkN (l : List S163) (k : Int) : lkL (mapN l) k = (ndOf l k).map (Value.int .i64) := by
 induction l using snocInd with
 | nil => rfl
 | snoc l x ih =>
  have h1 : mapN (l ++ [x]) = mapN l ++ [(x.f0, .int .i64 x.f1)] := by simp [mapN]
  have h2 : ndOf (l ++ [x]) k = if x.f0 = k then some x.f1 else ndOf l k := by unfold ndOf; rw [List.foldl_append]; rfl
  rw [h1, lkL_snoc, h2, ih]
  dsimp only
  split <;> rfl
structure BookAt (w : World) (p gt go gn : Nat) (b : RB) : Prop where
 p : w.heap[p]? = some (.cells #[.int .i64 b.c.f0, .int .i64 b.c.f1, .int .i64 b.c.f2, .int .i64 b.c.f3, .int .i64 b.c.f4, .slice (some ⟨gt, 0, none⟩) b.calls.length b.calls.length, .map (some go), .map (some gn)] 114 (0, 0))
 t : ∃ cs : Array Value, w.heap[gt]? = some (.cells cs 107 (0, 0)) ∧ cs.size = b.calls.length * 3 ∧ ∀ i (h : i < b.calls.length), cs[i * 3]? = some (.int .i64 b.calls[i]) ∧ cs[i * 3 + 1]? = some (.int .i64 (b.ins.getD i 0)) ∧ cs[i * 3 + 2]? = some (.int .i64 (b.made.getD i 0))
 o : w.ownsMap Try.prog 3 hvH go b.ops.length (dmap (mapO b.ops))
 n : w.ownsMap Try.prog 3 hvH gn b.nodes.length (dmap (mapN b.nodes))
 li : b.ins.length = b.calls.length
 lm : b.made.length = b.calls.length
 small : b.calls.length ≤ 8 ∧ b.ops.length ≤ 100000 ∧ b.nodes.length ≤ 100000
 ne : go ≠ gn
theorem BookAt.below {w w1 : World} {p gt go gn : Nat} {b : RB} (h : BookAt w p gt go gn b) (hb : Below w.heap.size w w1) : BookAt w1 p gt go gn b := by
 obtain ⟨cs, h1, h2⟩ := h.t
 exact ⟨blk_below h.p hb, ⟨cs, blk_below h1 hb, h2⟩, h.o.kept (row := none) ⟨hb.os, hb.tape, hb.output, hb.size, fun k hk _ => hb.block k hk⟩ (by simp), h.n.kept (row := none) ⟨hb.os, hb.tape, hb.output, hb.size, fun k hk _ => hb.block k hk⟩ (by simp), h.li, h.lm, h.small, h.ne⟩
theorem BookAt.lt {w : World} {p gt go gn : Nat} {b : RB} (h : BookAt w p gt go gn b) : p < w.heap.size ∧ gt < w.heap.size ∧ go < w.heap.size ∧ gn < w.heap.size := by
 obtain ⟨cs, h1, h2⟩ := h.t
 exact ⟨blk_lt h.p, blk_lt h1, h.o.lt, h.n.lt⟩
theorem BookAt.apart {w : World} {p gt go gn : Nat} {b : RB} (h : BookAt w p gt go gn b) : p ≠ gt ∧ p ≠ go ∧ p ≠ gn ∧ gt ≠ go ∧ gt ≠ gn := by
 obtain ⟨cs, h1, h2⟩ := h.t
 obtain ⟨es, cl, ho, _⟩ := h.o
 obtain ⟨es2, cl2, hn, _⟩ := h.n
 have hp := h.p
 refine ⟨?_, ?_, ?_, ?_, ?_⟩
 ·rintro rfl; rw [h1] at hp; injection hp with hp; injection hp with _ hp; revert hp; decide
 ·rintro rfl; rw [ho] at hp; cases hp
 ·rintro rfl; rw [hn] at hp; cases hp
 ·rintro rfl; rw [ho] at h1; cases h1
 ·rintro rfl; rw [hn] at h1; cases h1
set_option maxHeartbeats 8000000 in
set_option maxRecDepth 100000 in
theorem bk_thread_in (p gt go gn : Nat) (b : RB) (i : Nat) (hi : i < b.calls.length) (w : World) (h : BookAt w p gt go gn b) :
  Calls Try.prog 64 #[.pointer (some ⟨p, 0, none⟩), .int .i64 (i : Int)] w fun e w' => e = .returned (.pointer (some ⟨gt, i * 3, none⟩)) ∧ w' = w := by
 have h0 := (blk_cell h.p 5).trans rfl
 have c1 : (i : Int) < (b.calls.length : Int) := by omega
 have c2 : (0 : Int) ≤ (i : Int) := by omega
 go_enter Try.func64, Try.ntmps64
 go_wp2
 go_ret
 exact ⟨rfl, rfl⟩
set_option maxHeartbeats 8000000 in
set_option maxRecDepth 100000 in
theorem bk_thread_out (p gt go gn : Nat) (b : RB) (i : Int) (hi : i < 0 ∨ (b.calls.length : Int) ≤ i) (w : World) (h : BookAt w p gt go gn b) :
  Calls Try.prog 64 #[.pointer (some ⟨p, 0, none⟩), .int .i64 i] w fun e w' => e = .returned (.pointer none) ∧ w' = w := by
 have h0 := (blk_cell h.p 5).trans rfl
 rcases hi with c1 | c1
 ·have c1b : decide (i < 0) = true := decide_eq_true c1
  go_enter Try.func64, Try.ntmps64
  go_wp2
  go_ret
  exact ⟨rfl, rfl⟩
 ·have c2 : ¬ i < 0 := by omega
  go_enter Try.func64, Try.ntmps64
  go_wp2
  go_ret
  exact ⟨rfl, rfl⟩
set_option maxHeartbeats 8000000 in
set_option maxRecDepth 100000 in
theorem bk_thread_nil (i : Int) (w : World) :
  Calls Try.prog 64 #[.pointer none, .int .i64 i] w fun e w' => e = .returned (.pointer none) ∧ w' = w := by
 go_enter Try.func64, Try.ntmps64
 go_wp2
 go_ret
 exact ⟨rfl, rfl⟩
def cnt (l : List Int) (n : Int) : Int := if 0 ≤ n ∧ n < (l.length : Int) then l.getD n.toNat 0 else 0
theorem BookAt.counts {w : World} {p gt go gn : Nat} {b : RB} (h : BookAt w p gt go gn b) (i : Nat) (hi : i < b.calls.length) :
  w.cell? ⟨gt, i * 3, none⟩ = some (.int .i64 (b.calls.getD i 0)) ∧ w.cell? ⟨gt, i * 3 + 1, none⟩ = some (.int .i64 (b.ins.getD i 0)) ∧ w.cell? ⟨gt, i * 3 + 2, none⟩ = some (.int .i64 (b.made.getD i 0)) := by
 obtain ⟨cs, h1, h2, h3⟩ := h.t
 obtain ⟨k0, k1, k2⟩ := h3 i hi
 refine ⟨(blk_cell h1 _).trans ?_, (blk_cell h1 _).trans k1, (blk_cell h1 _).trans k2⟩
 rw [k0]
 simp [List.getD, hi]
set_option maxHeartbeats 8000000 in
set_option maxRecDepth 100000 in
theorem bk_Calls (p gt go gn : Nat) (b : RB) (n : Int) (w : World) (h : BookAt w p gt go gn b) :
  Calls Try.prog 29 #[.pointer (some ⟨p, 0, none⟩), .int .i64 n] w fun e w' => e = .returned (.int .i64 (cnt b.calls n)) ∧ w' = w := by
 by_cases c : 0 ≤ n ∧ n < (b.calls.length : Int)
 ·obtain ⟨i, rfl⟩ : ∃ i : Nat, n = (i : Int) := ⟨n.toNat, by omega⟩
  have hi : i < b.calls.length := by omega
  have e0 : cnt b.calls (i : Int) = b.calls.getD i 0 := by unfold cnt; rw [if_pos c]; rfl
  rw [e0]
  obtain ⟨c0, _, _⟩ := h.counts i hi
  generalize b.calls.getD i 0 = x at c0 ⊢
  have HT := Aside0.mk (bk_thread_in p gt go gn b i hi w h)
  clear c
  go_enter Try.func29, Try.ntmps29
  go_wp2_with (go_at_call 64; (with_reducible refine HT.out.mono ?_); rintro e w1 ⟨rfl, rfl⟩)
  go_ret
  exact ⟨rfl, rfl⟩
 ·have e0 : cnt b.calls n = 0 := by unfold cnt; rw [if_neg c]
  rw [e0]
  have HT := Aside0.mk (bk_thread_out p gt go gn b n (by omega) w h)
  clear c
  go_enter Try.func29, Try.ntmps29
  go_wp2_with (go_at_call 64; (with_reducible refine HT.out.mono ?_); rintro e w1 ⟨rfl, rfl⟩)
  go_ret
  exact ⟨rfl, rfl⟩
set_option maxHeartbeats 8000000 in
set_option maxRecDepth 100000 in
theorem bk_Calls_nil (n : Int) (w : World) : Calls Try.prog 29 #[.pointer none, .int .i64 n] w fun e w' => e = .returned (.int .i64 0) ∧ w' = w := by
 go_enter Try.func29, Try.ntmps29
 go_wp2_with (go_at_call 64; (with_reducible refine (bk_thread_nil n _).mono ?_); rintro e w1 ⟨rfl, rfl⟩)
 go_ret
 exact ⟨rfl, rfl⟩
theorem BookAt.frz {w : World} {p gt go gn : Nat} {b : RB} (h : BookAt w p gt go gn b) (j : Nat) : w.frozen? ⟨gt, j, none⟩ = false := by obtain ⟨cs, h1, _⟩ := h.t; exact blk_frozen h1 j
theorem BookAt.drew {w : World} {p gt go gn : Nat} {b : RB} (h : BookAt w p gt go gn b) : BookAt w.drew p gt go gn b := ⟨h.p, h.t, h.o, h.n, h.li, h.lm, h.small, h.ne⟩
theorem Touch.drew {S : Nat → Prop} {w0 w : World} (h : Touch S w0 w) : Touch S w0 w.drew := ⟨h.os, h.tape, h.output, h.size, h.block⟩
theorem getD_set (l : List Int) (i j : Nat) (v : Int) (h : j < l.length) : (l.set i v).getD j 0 = if i = j then v else l.getD j 0 := by
 by_cases e : i = j
 ·subst e
  rw [if_pos rfl]
  simp [List.getD, h]
 ·rw [if_neg e]
  simp [List.getD, e]
def lb_ (n m : Nat) : Array Bool := ((List.range n).map (fun i => m.testBit i)).toArray
theorem wrap64_eq {n : Int} (h0 : -9223372036854775808 ≤ n) (h1 : n ≤ 9223372036854775807) : wrap64 n = n := by unfold wrap64; omega
theorem shl_at (j : Nat) (h : j ≤ 6) : shl .i64 1 (j : Int) = 2 ^ j := by
 match j, h with
 | 0, _ => exact (by decide : shl .i64 1 0 = 2 ^ 0)
 | 1, _ => exact (by decide : shl .i64 1 1 = 2 ^ 1)
 | 2, _ => exact (by decide : shl .i64 1 2 = 2 ^ 2)
 | 3, _ => exact (by decide : shl .i64 1 3 = 2 ^ 3)
 | 4, _ => exact (by decide : shl .i64 1 4 = 2 ^ 4)
 | 5, _ => exact (by decide : shl .i64 1 5 = 2 ^ 5)
 | 6, _ => exact (by decide : shl .i64 1 6 = 2 ^ 6)
theorem may_step (k : Nat) (b : Int) (i : Nat) (hi : i < 7) : route_May.l0 (k + 1) b 7 (i : Int) = if b = 2 ^ i then some true else route_May.l0 k b 7 ((i + 1 : Nat) : Int) := by
 simp only [route_May.l0]
 rw [if_pos (by omega), if_pos (by omega), shl_at i (by omega), wrap64_eq (by omega) (by omega)]
 rfl
def isPow (b : Int) : Bool := decide (b = 1 ∨ b = 2 ∨ b = 4 ∨ b = 8 ∨ b = 16 ∨ b = 32 ∨ b = 64)
theorem isPow_le {b : Int} (h : isPow b = true) : 1 ≤ b ∧ b ≤ 64 := by
 have : b = 1 ∨ b = 2 ∨ b = 4 ∨ b = 8 ∨ b = 16 ∨ b = 32 ∨ b = 64 := by simpa [isPow] using h
 omega
theorem may_eq (k : Nat) (b : Int) : route_May.f (k + 8) b = some (isPow b) := by
 have h0 : bits_Len.f 64 = some 7 := by decide
 unfold route_May.f
 rw [h0]
 simp only [Option.bind_some]
 show route_May.l0 (k + 7 + 1) b 7 ((0 : Nat) : Int) = _
 rw [may_step _ _ 0 (by omega), may_step _ _ 1 (by omega), may_step _ _ 2 (by omega), may_step _ _ 3 (by omega), may_step _ _ 4 (by omega), may_step _ _ 5 (by omega), may_step _ _ 6 (by omega)]
 have h7 : route_May.l0 (k + 1) b 7 ((7 : Nat) : Int) = some false := by simp only [route_May.l0]; rw [if_neg (by omega)]
 rw [h7]
 unfold isPow
 by_cases c0 : b = 1
 ·subst c0; rfl
 by_cases c1 : b = 2
 ·subst c1; rfl
 by_cases c2 : b = 4
 ·subst c2; rfl
 by_cases c3 : b = 8
 ·subst c3; rfl
 by_cases c4 : b = 16
 ·subst c4; rfl
 by_cases c5 : b = 32
 ·subst c5; rfl
 by_cases c6 : b = 64
 ·subst c6; rfl
 simp [c0, c1, c2, c3, c4, c5, c6]
def Ok (t b i f c : Int) : Prop := (1 ≤ t ∧ t ≤ 8) ∧ isPow b = true ∧ (0 ≤ i ∧ i ≤ 256) ∧ (0 ≤ f ∧ f ≤ 65536) ∧ (1 ≤ c ∧ c ≤ 256)
instance (t b i f c : Int) : Decidable (Ok t b i f c) := by unfold Ok; infer_instance
theorem within_eq (a l h : Int) : conf_within.f a l h = some (decide (l ≤ a ∧ a ≤ h)) := by
 unfold conf_within.f
 by_cases c : a ≥ l
 ·rw [if_pos c]; congr 1; rw [Bool.eq_iff_iff]; simp; omega
 ·rw [if_neg c]; congr 1; symm; rw [decide_eq_false_iff_not]; omega
theorem all_eq (k : Nat) (a b c d e : Bool) : conf_all.f (k + 6) [a, b, c, d, e] = some (a && (b && (c && (d && e)))) := by
 have w0 : wrap64 1 = 1 := by unfold wrap64; decide
 have w1 : wrap64 2 = 2 := by unfold wrap64; decide
 have w2 : wrap64 3 = 3 := by unfold wrap64; decide
 have w3 : wrap64 4 = 4 := by unfold wrap64; decide
 have w4 : wrap64 5 = 5 := by unfold wrap64; decide
 cases a <;> cases b <;> cases c <;> cases d <;> cases e <;> simp [conf_all.f, conf_all.l0, rdOf, w0, w1, w2, w3, w4]
theorem cmay_eq (k : Nat) (t b i f c : Int) : conf_May.f (k + 8) t b i f c = some (if Ok t b i f c then 0 else 1) := by
 unfold conf_May.f
 rw [within_eq, may_eq, within_eq, within_eq, within_eq]
 simp only [Option.bind_some]
 rw [show k + 8 = (k + 2) + 6 from rfl, all_eq]
 simp only [Option.bind_some]
 by_cases h : Ok t b i f c
 ·rw [if_pos h]
  obtain ⟨h1, h2, h3, h4, h5⟩ := h
  rw [decide_eq_true h1, h2, decide_eq_true h3, decide_eq_true h4, decide_eq_true h5]
  rfl
 ·rw [if_neg h, if_neg]
  intro hh
  simp only [Bool.and_eq_true, decide_eq_true_eq] at hh
  exact h ⟨hh.1, hh.2.1, hh.2.2.1, hh.2.2.2.1, hh.2.2.2.2⟩
theorem mul_le {t c : Int} (h1 : 1 ≤ t) (h2 : t ≤ 8) (h3 : 1 ≤ c) (h4 : c ≤ 256) : 1 ≤ t * c ∧ t ≤ t * c ∧ t * c ≤ 2048 := by
 have ha : t * 1 ≤ t * c := Int.mul_le_mul_of_nonneg_left h3 (by omega)
 have hb : t * c ≤ 8 * c := Int.mul_le_mul_of_nonneg_right h2 (by omega)
 omega
theorem threads_eq (k : Nat) (t b i f c : Int) : layout_threads.f (k + 8) t b i f c = some (if Ok t b i f c then t else 0) := by
 unfold layout_threads.f
 rw [cmay_eq]
 simp only [Option.bind_some]
 by_cases h : Ok t b i f c
 ·simp only [if_pos h]; rfl
 ·simp only [if_neg h]; rfl
theorem bnds {t b i f c : Int} (h : Ok t b i f c) : 1 ≤ t ∧ t ≤ 8 ∧ 1 ≤ b ∧ b ≤ 64 ∧ 1 ≤ c ∧ c ≤ 256 ∧ 1 ≤ t * c ∧ t ≤ t * c ∧ t * c ≤ 2048 := by
 have hm := mul_le h.1.1 h.1.2 h.2.2.2.2.1 h.2.2.2.2.2
 have hb := isPow_le h.2.1
 have h5 := h.2.2.2.2
 have h1 := h.1
 omega
theorem sc_le {s t c : Int} (h0 : 0 ≤ s) (h1 : s < t) (h2 : t ≤ 8) (h3 : 1 ≤ c) (h4 : c ≤ 256) : 0 ≤ s * c ∧ s * c + c ≤ t * c ∧ t * c ≤ 2048 := by
 have ha : 0 * c ≤ s * c := Int.mul_le_mul_of_nonneg_right h0 (by omega)
 have hb : (s + 1) * c ≤ t * c := Int.mul_le_mul_of_nonneg_right (by omega) (by omega)
 have hc : t * c ≤ 8 * c := Int.mul_le_mul_of_nonneg_right h2 (by omega)
 rw [Int.add_mul, Int.one_mul] at hb
 omega
def newRB (c : S23) : RB := ⟨c, List.replicate c.f0.toNat 0, List.replicate c.f0.toNat 0, List.replicate c.f0.toNat 0, [], []⟩
theorem info_thread : (Try.prog.info? 107).map (fun i => (i.zero, i.size, i.bytes)) = some (some (.agg #[.int .i64 0, .int .i64 0, .int .i64 0]), 3, 24) := by kernel_rfl
theorem made3 (n i : Nat) (h : i < n) : (madeCells #[.int .i64 0, .int .i64 0, .int .i64 0] (n * 3))[i * 3]? = some (.int .i64 0) ∧ (madeCells #[.int .i64 0, .int .i64 0, .int .i64 0] (n * 3))[i * 3 + 1]? = some (.int .i64 0) ∧ (madeCells #[.int .i64 0, .int .i64 0, .int .i64 0] (n * 3))[i * 3 + 2]? = some (.int .i64 0) := by
 have e0 : i * 3 % 3 = 0 := by omega
 have e1 : (i * 3 + 1) % 3 = 1 := by omega
 have e2 : (i * 3 + 2) % 3 = 2 := by omega
 refine ⟨?_, ?_, ?_⟩
 ·simp [madeCells, show i * 3 < n * 3 from by omega, e0]
 ·simp [madeCells, show i * 3 + 1 < n * 3 from by omega, e1]
 ·simp [madeCells, show i * 3 + 2 < n * 3 from by omega, e2]
theorem run_make_thread (n : Nat) (hn : n ≤ 8) (W : World) : (Instr.makeSlice 110 (.int .i64 (n : Int)) (.int .i64 (n : Int))).run Try.prog W = .ok (.slice (some ⟨W.heap.size, 0, none⟩) n n) (W.alloc (.cells (madeCells #[.int .i64 0, .int .i64 0, .int .i64 0] (n * 3)) 107)) := by
 obtain ⟨i0, hi, hz0, hz1, hz2⟩ := info_parts info_thread
 have h := run_make (P := Try.prog) W 110 107 i0 (.agg #[.int .i64 0, .int .i64 0, .int .i64 0]) Try.underlying110 hi hz0 .i64 .i64 (n : Int) (n : Int) (by omega) (by omega) (by rw [hz2]; omega) (by omega)
 rw [hz1] at h
 simpa [Value.cells] using h
theorem BookAt.new {w : World} {p gt go gn : Nat} (c : S23) (n : Nat) (hn : n ≤ 8) (hc : c.f0 = (n : Int)) (hp : w.heap[p]? = some (.cells #[.int .i64 c.f0, .int .i64 c.f1, .int .i64 c.f2, .int .i64 c.f3, .int .i64 c.f4, .slice (some ⟨gt, 0, none⟩) n n, .map (some go), .map (some gn)] 114 (0, 0))) (ht : w.heap[gt]? = some (.cells (madeCells #[.int .i64 0, .int .i64 0, .int .i64 0] (n * 3)) 107 (0, 0)))
  (ho : w.heap[go]? = some (.map #[] 0)) (hd : w.heap[gn]? = some (.map #[] 0)) (hne : go ≠ gn) : BookAt w p gt go gn (newRB c) := by
 have hl : (newRB c).calls.length = n := by simp [newRB, hc]
 have own : ∀ (W : World) (g : Nat), W.heap[g]? = some (.map #[] 0) → W.ownsMap Try.prog 3 hvH g 0 (.map []) := fun W g hg => ⟨#[], 0, hg, ⟨by simp, MapKept.stamped_empty 0, by simp⟩, Nat.le_refl _, rfl⟩
 refine ⟨by rw [hl]; exact hp, ⟨_, ht, by rw [size_madeCells, hl], fun i hi => ?_⟩, own w go ho, own w gn hd, by simp [newRB], by simp [newRB], ⟨by rw [hl]; exact hn, by simp [newRB], by simp [newRB]⟩, hne⟩
 rw [hl] at hi
 obtain ⟨k0, k1, k2⟩ := made3 n i hi
 refine ⟨?_, ?_, ?_⟩
 ·rw [k0]; simp [newRB]
 ·rw [k1]; simp [newRB, hc, hi]
 ·rw [k2]; simp [newRB, hc, hi]
def bk_New.T4 : Bool × List (List Nat × List Nat) := (true, [([], []), ([], []), ([1], [1]), ([2, 2], [2]), ([], []), ([], []), ([0, 3, 4, 5], [0, 3, 4, 5]), ([6], [6]), ([7, 0, 1, 2, 3, 4, 5, 6, 7], [7]), ([8, 0, 1, 2, 3, 4, 5, 6, 7, 8], [])])
def bk_New.B4 : List Nat := [0, 0, 2, 6, 0, 0, 63, 127, 255, 511]
theorem bk_New.tab4 : rtab .any (opsOf Try.f32 4) = bk_New.T4 := by kernel_rfl
theorem bk_New.bits4 : waitsOk bk_New.T4.2 bk_New.B4 = true := by kernel_rfl
set_option maxHeartbeats 8000000 in
set_option maxRecDepth 100000 in
theorem bk_New_no (c : S23) (e : Int) (he : ¬ e = 0) (w : World) (hm : ∀ W, Calls Try.prog 66 #[.agg #[.int .i64 c.f0, .int .i64 c.f1, .int .i64 c.f2, .int .i64 c.f3, .int .i64 c.f4]] W (fun r w' => r = .returned (.int .i64 e) ∧ Below W.heap.size W w')) :
  Calls Try.prog 32 #[.agg #[.int .i64 c.f0, .int .i64 c.f1, .int .i64 c.f2, .int .i64 c.f3, .int .i64 c.f4]] w fun r w' => r = .returned (.tuple #[.pointer none, .int .i64 e]) ∧ Below w.heap.size w w' := by
 have HM := Aside0.mk hm
 have heb : (e != 0) = true := by simpa using he
 clear hm he
 go_enter Try.func32, Try.ntmps32
 go_wp2_with (go_at_call 66; (with_reducible refine (HM.out _).mono ?_); rintro r w1 ⟨rfl, hbk⟩; have HB := Aside0.mk hbk; clear hbk)
 go_ret2
 exact ⟨rfl, below_step (below_alloc (Below.refl _ _) _) HB.out⟩
set_option maxHeartbeats 8000000 in
set_option maxRecDepth 100000 in
theorem bk_New_ok (c : S23) (n : Nat) (hn : n ≤ 8) (hc : c.f0 = (n : Int)) (w : World) (hm : ∀ W, Calls Try.prog 66 #[.agg #[.int .i64 c.f0, .int .i64 c.f1, .int .i64 c.f2, .int .i64 c.f3, .int .i64 c.f4]] W (fun r w' => r = .returned (.int .i64 0) ∧ Below W.heap.size W w')) :
  Calls Try.prog 32 #[.agg #[.int .i64 c.f0, .int .i64 c.f1, .int .i64 c.f2, .int .i64 c.f3, .int .i64 c.f4]] w fun r w' => ∃ p gt go gn, r = .returned (.tuple #[.pointer (some ⟨p, 0, none⟩), .int .i64 0]) ∧ BookAt w' p gt go gn (newRB c) ∧ Below w.heap.size w w' ∧ w.heap.size ≤ p ∧ w.heap.size ≤ gt ∧ w.heap.size ≤ go ∧ w.heap.size ≤ gn := by
 have HM := Aside0.mk hm
 have HC := Aside0.mk hc
 have HN := Aside0.mk hn
 have HB := Aside0.mk (Below.refl w.heap.size w)
 have hmk := run_make_thread n hn
 rw [← hc] at hmk
 have hmm := @run_makeMap Try.prog
 clear hm hc hn
 go_enter Try.func32, Try.ntmps32
 go_upto_region 4 with (first | ((with_reducible refine gate_dst (N := 1) rfl ?_); refine box_event ?hg (N := 1) ?hd (cs := #[.int .i64 c.f0, .int .i64 c.f1, .int .i64 c.f2, .int .i64 c.f3, .int .i64 c.f4]) (t := 23) ?hr ?_; (case hd => rfl); (case hg => rfl); (case hr => first | (go_simp; done) | (go_simp; rfl)); intro g1 hg w1 hbox hbk; have B1 := Aside0.mk hbox; have n_HB := Aside0.mk (below_step HB.out hbk); clear HB; have HB := n_HB; clear n_HB; have HG1 := Aside0.mk (show g1 = w.heap.size from hg); clear hbk hbox hg; have c1_0 : w1.cell? ⟨g1, 0, none⟩ = some (.int .i64 c.f0) := (blk_cell B1.out 0).trans rfl; have c1_1 : w1.cell? ⟨g1, 1, none⟩ = some (.int .i64 c.f1) := (blk_cell B1.out 1).trans rfl; have c1_2 : w1.cell? ⟨g1, 2, none⟩ = some (.int .i64 c.f2) := (blk_cell B1.out 2).trans rfl; have c1_3 : w1.cell? ⟨g1, 3, none⟩ = some (.int .i64 c.f3) := (blk_cell B1.out 3).trans rfl; have c1_4 : w1.cell? ⟨g1, 4, none⟩ = some (.int .i64 c.f4) := (blk_cell B1.out 4).trans rfl) | (go_at_call 66; (with_reducible refine (HM.out _).mono ?_); rintro r w2 ⟨rfl, hbk⟩; have n1_ := Aside0.mk (blk_below B1.out hbk); have n2_ := Aside0.mk (below_step HB.out hbk); clear B1 HB hbk c1_0 c1_1 c1_2 c1_3 c1_4; have B1 := n1_; have HB := n2_; clear n1_ n2_))
 have n_B1 := Aside0.mk (blk_drew B1.out)
 have n_HB := Aside0.mk (below_drew1 HB.out)
 clear B1 HB
 have B1 := n_B1
 have HB := n_HB
 clear n_B1 n_HB
 refine start_ (n := 10) (S := fun w' => w'.cell? ⟨g1, 0, none⟩ = some (.int .i64 c.f0) ∧ w'.cell? ⟨g1, 1, none⟩ = some (.int .i64 c.f1) ∧ w'.cell? ⟨g1, 2, none⟩ = some (.int .i64 c.f2) ∧ w'.cell? ⟨g1, 3, none⟩ = some (.int .i64 c.f3) ∧ w'.cell? ⟨g1, 4, none⟩ = some (.int .i64 c.f4)) (ds := []) #[false, false, false, false, false, false, false, false, false, false] (by kernel_rfl) rfl rfl ⟨((blk_cell B1.out 0).trans rfl), ((blk_cell B1.out 1).trans rfl), ((blk_cell B1.out 2).trans rfl), ((blk_cell B1.out 3).trans rfl), ((blk_cell B1.out 4).trans rfl)⟩ (fun hHeld => ?_); refine with_tabW bk_New.tab4 bk_New.bits4 (fun HT_ HW_ => ?_)
 generalize w2.drew = W1 at B1 HB hHeld ⊢
 refine pure_ (i := 1) (N := some 11) (v := ?_) (a' := ?_) (lb_ 10 2) rfl rfl (any_of HT_.out (by kernel_rfl)) (fun _ _ _ h => h) (Or.inl ⟨by rfl, ?_⟩) ?_ ?_; rotate_left
 ·intro w'; go_simp; with_reducible rfl
 rotate_left
 ·simp only [Act.put, List.setIfInBounds_toArray, List.set_cons_zero, List.set_cons_succ, i64_w, i32_w]; rfl
 refine take_ (i := 0) (N := some 10) (v := ?_) (a' := ?_) (lb_ 10 3) rfl rfl (take_ofW HT_.out HW_.out (by kernel_rfl)) (fun _ _ _ h => h) (Or.inl ⟨by rfl, ?_⟩) hHeld ?_ ?_; rotate_left
 ·rintro w' ⟨s0, s1, s2, s3, s4⟩; go_simp; with_reducible rfl
 rotate_left
 ·simp only [Act.put, List.setIfInBounds_toArray, List.set_cons_zero, List.set_cons_succ, i64_w, i32_w]; rfl
 refine take_ (i := 2) (N := some 12) (v := ?_) (a' := ?_) (lb_ 10 7) rfl rfl (take_ofW HT_.out HW_.out (by kernel_rfl)) (fun _ _ _ h => h) (Or.inl ⟨by rfl, ?_⟩) hHeld ?_ ?_; rotate_left
 ·rintro w' ⟨s0, s1, s2, s3, s4⟩; go_simp; with_reducible rfl
 rotate_left
 ·simp only [Act.put, List.setIfInBounds_toArray, List.set_cons_zero, List.set_cons_succ, i64_w, i32_w]; rfl
 refine join_ (σ := Nat × Nat × Nat) 4 (lb_ 10 63) (fun s => [(13, .slice (some ⟨s.1, 0, none⟩) n n), (14, .map (some s.2.1)), (15, .map (some s.2.2))]) (fun s w' => Aside0 (w'.heap[g1]? = some (.cells #[.int .i64 c.f0, .int .i64 c.f1, .int .i64 c.f2, .int .i64 c.f3, .int .i64 c.f4] 23 (0, 0))) ∧ Aside0 (Below w.heap.size w w') ∧ Aside0 (w'.heap[s.1]? = some (.cells (madeCells #[.int .i64 0, .int .i64 0, .int .i64 0] (n * 3)) 107 (0, 0))) ∧ Aside0 (w'.heap[s.2.1]? = some (.map #[] 0)) ∧ Aside0 (w'.heap[s.2.2]? = some (.map #[] 0)) ∧ Aside0 (w.heap.size ≤ s.1) ∧ Aside0 (w.heap.size ≤ s.2.1) ∧ Aside0 (w.heap.size ≤ s.2.2) ∧ Aside0 (s.2.1 ≠ s.2.2)) ?_ ?_
 rotate_left
 ·intro hCont
  refine three_ (i := 3) (j := 4) (k := 5) (Ni := some 13) (Nj := some 14) (Nk := some 15) (lb_ 10 15) (lb_ 10 23) (lb_ 10 39) rfl rfl rfl rfl rfl rfl (by kernel_rfl) (by decide) (by decide) (by decide) (fun K hK => ?_) (fun K hK => ?_) (fun K hK => ?_)
  ·skip
   refine value_ (w1 := ?_) (v := ?_) (by rfl) rfl ?_ ?_
   rotate_left 2
   ·go_simp
    constructor
    ·rfl
    ·rfl
   have hbk : Below W1.heap.size W1 (W1.alloc (.cells (madeCells #[.int .i64 0, .int .i64 0, .int .i64 0] (n * 3)) 107)) := below_alloc (Below.refl _ _) _
   have n_B1 := Aside0.mk (blk_below B1.out hbk)
   have n_HB := Aside0.mk (below_step HB.out hbk)
   have B13 := Aside0.mk (blk_new W1 (.cells (madeCells #[.int .i64 0, .int .i64 0, .int .i64 0] (n * 3)) 107))
   have HG13 := Aside0.mk (show w.heap.size ≤ W1.heap.size from HB.out.size)
   clear hbk B1 HB
   have B1 := n_B1
   have HB := n_HB
   clear n_B1 n_HB
   generalize W1.alloc (.cells (madeCells #[.int .i64 0, .int .i64 0, .int .i64 0] (n * 3)) 107) = w13 at B1 HB B13 ⊢
   generalize W1.heap.size = g13 at B13 HG13  ⊢
   refine hK.out _ _ ⟨((blk_cell B1.out 0).trans rfl), ((blk_cell B1.out 1).trans rfl), ((blk_cell B1.out 2).trans rfl), ((blk_cell B1.out 3).trans rfl), ((blk_cell B1.out 4).trans rfl)⟩ (fun hHeld => ?_)
   clear hK K
   refine norm_ (a' := ?_) ?_ ?_
   rotate_left
   ·show Act.put _ (some 13) _ = _
    simp only [Act.put, List.setIfInBounds_toArray, List.set_cons_zero, List.set_cons_succ, i64_w, i32_w]
    rfl
   refine two_ (i := 4) (j := 5) (Ni := some 14) (Nj := some 15) (lb_ 10 31) (lb_ 10 47) rfl rfl rfl rfl (two_of HT_.out (by kernel_rfl)) (by decide) (by decide) (fun K hK => ?_) (fun K hK => ?_)
   ·skip
    refine value_ (w1 := ?_) (v := ?_) (by rfl) rfl ?_ ?_
    rotate_left 2
    ·go_simp
     constructor
     ·rfl
     ·rfl
    have hbk : Below w13.heap.size w13 (w13.alloc (.map #[] 0)) := below_alloc (Below.refl _ _) _
    have n_B1 := Aside0.mk (blk_below B1.out hbk)
    have n_HB := Aside0.mk (below_step HB.out hbk)
    have n_B13 := Aside0.mk (blk_below B13.out hbk)
    have B14 := Aside0.mk (blk_new w13 (.map #[] 0))
    have HG14 := Aside0.mk (show w.heap.size ≤ w13.heap.size from HB.out.size)
    clear hbk B1 HB B13
    have B1 := n_B1
    have HB := n_HB
    have B13 := n_B13
    clear n_B1 n_HB n_B13
    generalize w13.alloc (.map #[] 0) = w14 at B1 HB B13 B14 ⊢
    generalize w13.heap.size = g14 at B14 HG14  ⊢
    refine hK.out _ _ ⟨((blk_cell B1.out 0).trans rfl), ((blk_cell B1.out 1).trans rfl), ((blk_cell B1.out 2).trans rfl), ((blk_cell B1.out 3).trans rfl), ((blk_cell B1.out 4).trans rfl)⟩ (fun hHeld => ?_)
    clear hK K
    refine norm_ (a' := ?_) ?_ ?_
    rotate_left
    ·show Act.put _ (some 14) _ = _
     simp only [Act.put, List.setIfInBounds_toArray, List.set_cons_zero, List.set_cons_succ, i64_w, i32_w]
     rfl
    refine one_ (i := 5) (N := some 15) (lb_ 10 63) rfl rfl (one_of HT_.out (by kernel_rfl)) (by decide) (fun K hK => ?_)
    refine value_ (w1 := ?_) (v := ?_) (by rfl) rfl ?_ ?_
    rotate_left 2
    ·go_simp
     constructor
     ·rfl
     ·rfl
    have hbk : Below w14.heap.size w14 (w14.alloc (.map #[] 0)) := below_alloc (Below.refl _ _) _
    have n_B1 := Aside0.mk (blk_below B1.out hbk)
    have n_HB := Aside0.mk (below_step HB.out hbk)
    have n_B13 := Aside0.mk (blk_below B13.out hbk)
    have n_B14 := Aside0.mk (blk_below B14.out hbk)
    have B15 := Aside0.mk (blk_new w14 (.map #[] 0))
    have HG15 := Aside0.mk (show w.heap.size ≤ w14.heap.size from HB.out.size)
    have HNE := Aside0.mk (show g14 ≠ w14.heap.size from Nat.ne_of_lt (blk_lt B14.out))
    clear hbk B1 HB B13 B14
    have B1 := n_B1
    have HB := n_HB
    have B13 := n_B13
    have B14 := n_B14
    clear n_B1 n_HB n_B13 n_B14
    generalize w14.alloc (.map #[] 0) = w15 at B1 HB B13 B14 B15 ⊢
    generalize w14.heap.size = g15 at B15 HG15 HNE ⊢
    refine hK.out _ _ ⟨((blk_cell B1.out 0).trans rfl), ((blk_cell B1.out 1).trans rfl), ((blk_cell B1.out 2).trans rfl), ((blk_cell B1.out 3).trans rfl), ((blk_cell B1.out 4).trans rfl)⟩ (fun hHeld => ?_)
    clear hK K
    refine norm_ (a' := ?_) ?_ ?_
    rotate_left
    ·show Act.put _ (some 15) _ = _
     simp only [Act.put, List.setIfInBounds_toArray, List.set_cons_zero, List.set_cons_succ, i64_w, i32_w]
     rfl
    exact norm_ (by simp only [putAll, Act.put, List.setIfInBounds_toArray, List.set_cons_zero, List.set_cons_succ]) (hCont (g13, g14, g15) _ ⟨B1, HB, B13, B14, B15, HG13, HG14, HG15, HNE⟩)
   ·skip
    refine value_ (w1 := ?_) (v := ?_) (by rfl) rfl ?_ ?_
    rotate_left 2
    ·go_simp
     constructor
     ·rfl
     ·rfl
    have hbk : Below w13.heap.size w13 (w13.alloc (.map #[] 0)) := below_alloc (Below.refl _ _) _
    have n_B1 := Aside0.mk (blk_below B1.out hbk)
    have n_HB := Aside0.mk (below_step HB.out hbk)
    have n_B13 := Aside0.mk (blk_below B13.out hbk)
    have B15 := Aside0.mk (blk_new w13 (.map #[] 0))
    have HG15 := Aside0.mk (show w.heap.size ≤ w13.heap.size from HB.out.size)
    clear hbk B1 HB B13
    have B1 := n_B1
    have HB := n_HB
    have B13 := n_B13
    clear n_B1 n_HB n_B13
    generalize w13.alloc (.map #[] 0) = w15 at B1 HB B13 B15 ⊢
    generalize w13.heap.size = g15 at B15 HG15  ⊢
    refine hK.out _ _ ⟨((blk_cell B1.out 0).trans rfl), ((blk_cell B1.out 1).trans rfl), ((blk_cell B1.out 2).trans rfl), ((blk_cell B1.out 3).trans rfl), ((blk_cell B1.out 4).trans rfl)⟩ (fun hHeld => ?_)
    clear hK K
    refine norm_ (a' := ?_) ?_ ?_
    rotate_left
    ·show Act.put _ (some 15) _ = _
     simp only [Act.put, List.setIfInBounds_toArray, List.set_cons_zero, List.set_cons_succ, i64_w, i32_w]
     rfl
    refine one_ (i := 4) (N := some 14) (lb_ 10 63) rfl rfl (one_of HT_.out (by kernel_rfl)) (by decide) (fun K hK => ?_)
    refine value_ (w1 := ?_) (v := ?_) (by rfl) rfl ?_ ?_
    rotate_left 2
    ·go_simp
     constructor
     ·rfl
     ·rfl
    have hbk : Below w15.heap.size w15 (w15.alloc (.map #[] 0)) := below_alloc (Below.refl _ _) _
    have n_B1 := Aside0.mk (blk_below B1.out hbk)
    have n_HB := Aside0.mk (below_step HB.out hbk)
    have n_B13 := Aside0.mk (blk_below B13.out hbk)
    have n_B15 := Aside0.mk (blk_below B15.out hbk)
    have B14 := Aside0.mk (blk_new w15 (.map #[] 0))
    have HG14 := Aside0.mk (show w.heap.size ≤ w15.heap.size from HB.out.size)
    have HNE := Aside0.mk (show w15.heap.size ≠ g15 from Nat.ne_of_gt (blk_lt B15.out))
    clear hbk B1 HB B13 B15
    have B1 := n_B1
    have HB := n_HB
    have B13 := n_B13
    have B15 := n_B15
    clear n_B1 n_HB n_B13 n_B15
    generalize w15.alloc (.map #[] 0) = w14 at B1 HB B13 B15 B14 ⊢
    generalize w15.heap.size = g14 at B14 HG14 HNE ⊢
    refine hK.out _ _ ⟨((blk_cell B1.out 0).trans rfl), ((blk_cell B1.out 1).trans rfl), ((blk_cell B1.out 2).trans rfl), ((blk_cell B1.out 3).trans rfl), ((blk_cell B1.out 4).trans rfl)⟩ (fun hHeld => ?_)
    clear hK K
    refine norm_ (a' := ?_) ?_ ?_
    rotate_left
    ·show Act.put _ (some 14) _ = _
     simp only [Act.put, List.setIfInBounds_toArray, List.set_cons_zero, List.set_cons_succ, i64_w, i32_w]
     rfl
    exact norm_ (by simp only [putAll, Act.put, List.setIfInBounds_toArray, List.set_cons_zero, List.set_cons_succ]) (hCont (g13, g14, g15) _ ⟨B1, HB, B13, B14, B15, HG13, HG14, HG15, HNE⟩)
  ·skip
   refine value_ (w1 := ?_) (v := ?_) (by rfl) rfl ?_ ?_
   rotate_left 2
   ·go_simp
    constructor
    ·rfl
    ·rfl
   have hbk : Below W1.heap.size W1 (W1.alloc (.map #[] 0)) := below_alloc (Below.refl _ _) _
   have n_B1 := Aside0.mk (blk_below B1.out hbk)
   have n_HB := Aside0.mk (below_step HB.out hbk)
   have B14 := Aside0.mk (blk_new W1 (.map #[] 0))
   have HG14 := Aside0.mk (show w.heap.size ≤ W1.heap.size from HB.out.size)
   clear hbk B1 HB
   have B1 := n_B1
   have HB := n_HB
   clear n_B1 n_HB
   generalize W1.alloc (.map #[] 0) = w14 at B1 HB B14 ⊢
   generalize W1.heap.size = g14 at B14 HG14  ⊢
   refine hK.out _ _ ⟨((blk_cell B1.out 0).trans rfl), ((blk_cell B1.out 1).trans rfl), ((blk_cell B1.out 2).trans rfl), ((blk_cell B1.out 3).trans rfl), ((blk_cell B1.out 4).trans rfl)⟩ (fun hHeld => ?_)
   clear hK K
   refine norm_ (a' := ?_) ?_ ?_
   rotate_left
   ·show Act.put _ (some 14) _ = _
    simp only [Act.put, List.setIfInBounds_toArray, List.set_cons_zero, List.set_cons_succ, i64_w, i32_w]
    rfl
   refine two_ (i := 3) (j := 5) (Ni := some 13) (Nj := some 15) (lb_ 10 31) (lb_ 10 55) rfl rfl rfl rfl (two_of HT_.out (by kernel_rfl)) (by decide) (by decide) (fun K hK => ?_) (fun K hK => ?_)
   ·skip
    refine value_ (w1 := ?_) (v := ?_) (by rfl) rfl ?_ ?_
    rotate_left 2
    ·go_simp
     constructor
     ·rfl
     ·rfl
    have hbk : Below w14.heap.size w14 (w14.alloc (.cells (madeCells #[.int .i64 0, .int .i64 0, .int .i64 0] (n * 3)) 107)) := below_alloc (Below.refl _ _) _
    have n_B1 := Aside0.mk (blk_below B1.out hbk)
    have n_HB := Aside0.mk (below_step HB.out hbk)
    have n_B14 := Aside0.mk (blk_below B14.out hbk)
    have B13 := Aside0.mk (blk_new w14 (.cells (madeCells #[.int .i64 0, .int .i64 0, .int .i64 0] (n * 3)) 107))
    have HG13 := Aside0.mk (show w.heap.size ≤ w14.heap.size from HB.out.size)
    clear hbk B1 HB B14
    have B1 := n_B1
    have HB := n_HB
    have B14 := n_B14
    clear n_B1 n_HB n_B14
    generalize w14.alloc (.cells (madeCells #[.int .i64 0, .int .i64 0, .int .i64 0] (n * 3)) 107) = w13 at B1 HB B14 B13 ⊢
    generalize w14.heap.size = g13 at B13 HG13  ⊢
    refine hK.out _ _ ⟨((blk_cell B1.out 0).trans rfl), ((blk_cell B1.out 1).trans rfl), ((blk_cell B1.out 2).trans rfl), ((blk_cell B1.out 3).trans rfl), ((blk_cell B1.out 4).trans rfl)⟩ (fun hHeld => ?_)
    clear hK K
    refine norm_ (a' := ?_) ?_ ?_
    rotate_left
    ·show Act.put _ (some 13) _ = _
     simp only [Act.put, List.setIfInBounds_toArray, List.set_cons_zero, List.set_cons_succ, i64_w, i32_w]
     rfl
    refine one_ (i := 5) (N := some 15) (lb_ 10 63) rfl rfl (one_of HT_.out (by kernel_rfl)) (by decide) (fun K hK => ?_)
    refine value_ (w1 := ?_) (v := ?_) (by rfl) rfl ?_ ?_
    rotate_left 2
    ·go_simp
     constructor
     ·rfl
     ·rfl
    have hbk : Below w13.heap.size w13 (w13.alloc (.map #[] 0)) := below_alloc (Below.refl _ _) _
    have n_B1 := Aside0.mk (blk_below B1.out hbk)
    have n_HB := Aside0.mk (below_step HB.out hbk)
    have n_B14 := Aside0.mk (blk_below B14.out hbk)
    have n_B13 := Aside0.mk (blk_below B13.out hbk)
    have B15 := Aside0.mk (blk_new w13 (.map #[] 0))
    have HG15 := Aside0.mk (show w.heap.size ≤ w13.heap.size from HB.out.size)
    have HNE := Aside0.mk (show g14 ≠ w13.heap.size from Nat.ne_of_lt (blk_lt B14.out))
    clear hbk B1 HB B14 B13
    have B1 := n_B1
    have HB := n_HB
    have B14 := n_B14
    have B13 := n_B13
    clear n_B1 n_HB n_B14 n_B13
    generalize w13.alloc (.map #[] 0) = w15 at B1 HB B14 B13 B15 ⊢
    generalize w13.heap.size = g15 at B15 HG15 HNE ⊢
    refine hK.out _ _ ⟨((blk_cell B1.out 0).trans rfl), ((blk_cell B1.out 1).trans rfl), ((blk_cell B1.out 2).trans rfl), ((blk_cell B1.out 3).trans rfl), ((blk_cell B1.out 4).trans rfl)⟩ (fun hHeld => ?_)
    clear hK K
    refine norm_ (a' := ?_) ?_ ?_
    rotate_left
    ·show Act.put _ (some 15) _ = _
     simp only [Act.put, List.setIfInBounds_toArray, List.set_cons_zero, List.set_cons_succ, i64_w, i32_w]
     rfl
    exact norm_ (by simp only [putAll, Act.put, List.setIfInBounds_toArray, List.set_cons_zero, List.set_cons_succ]) (hCont (g13, g14, g15) _ ⟨B1, HB, B13, B14, B15, HG13, HG14, HG15, HNE⟩)
   ·skip
    refine value_ (w1 := ?_) (v := ?_) (by rfl) rfl ?_ ?_
    rotate_left 2
    ·go_simp
     constructor
     ·rfl
     ·rfl
    have hbk : Below w14.heap.size w14 (w14.alloc (.map #[] 0)) := below_alloc (Below.refl _ _) _
    have n_B1 := Aside0.mk (blk_below B1.out hbk)
    have n_HB := Aside0.mk (below_step HB.out hbk)
    have n_B14 := Aside0.mk (blk_below B14.out hbk)
    have B15 := Aside0.mk (blk_new w14 (.map #[] 0))
    have HG15 := Aside0.mk (show w.heap.size ≤ w14.heap.size from HB.out.size)
    have HNE := Aside0.mk (show g14 ≠ w14.heap.size from Nat.ne_of_lt (blk_lt B14.out))
    clear hbk B1 HB B14
    have B1 := n_B1
    have HB := n_HB
    have B14 := n_B14
    clear n_B1 n_HB n_B14
    generalize w14.alloc (.map #[] 0) = w15 at B1 HB B14 B15 ⊢
    generalize w14.heap.size = g15 at B15 HG15 HNE ⊢
    refine hK.out _ _ ⟨((blk_cell B1.out 0).trans rfl), ((blk_cell B1.out 1).trans rfl), ((blk_cell B1.out 2).trans rfl), ((blk_cell B1.out 3).trans rfl), ((blk_cell B1.out 4).trans rfl)⟩ (fun hHeld => ?_)
    clear hK K
    refine norm_ (a' := ?_) ?_ ?_
    rotate_left
    ·show Act.put _ (some 15) _ = _
     simp only [Act.put, List.setIfInBounds_toArray, List.set_cons_zero, List.set_cons_succ, i64_w, i32_w]
     rfl
    refine one_ (i := 3) (N := some 13) (lb_ 10 63) rfl rfl (one_of HT_.out (by kernel_rfl)) (by decide) (fun K hK => ?_)
    refine value_ (w1 := ?_) (v := ?_) (by rfl) rfl ?_ ?_
    rotate_left 2
    ·go_simp
     constructor
     ·rfl
     ·rfl
    have hbk : Below w15.heap.size w15 (w15.alloc (.cells (madeCells #[.int .i64 0, .int .i64 0, .int .i64 0] (n * 3)) 107)) := below_alloc (Below.refl _ _) _
    have n_B1 := Aside0.mk (blk_below B1.out hbk)
    have n_HB := Aside0.mk (below_step HB.out hbk)
    have n_B14 := Aside0.mk (blk_below B14.out hbk)
    have n_B15 := Aside0.mk (blk_below B15.out hbk)
    have B13 := Aside0.mk (blk_new w15 (.cells (madeCells #[.int .i64 0, .int .i64 0, .int .i64 0] (n * 3)) 107))
    have HG13 := Aside0.mk (show w.heap.size ≤ w15.heap.size from HB.out.size)
    clear hbk B1 HB B14 B15
    have B1 := n_B1
    have HB := n_HB
    have B14 := n_B14
    have B15 := n_B15
    clear n_B1 n_HB n_B14 n_B15
    generalize w15.alloc (.cells (madeCells #[.int .i64 0, .int .i64 0, .int .i64 0] (n * 3)) 107) = w13 at B1 HB B14 B15 B13 ⊢
    generalize w15.heap.size = g13 at B13 HG13  ⊢
    refine hK.out _ _ ⟨((blk_cell B1.out 0).trans rfl), ((blk_cell B1.out 1).trans rfl), ((blk_cell B1.out 2).trans rfl), ((blk_cell B1.out 3).trans rfl), ((blk_cell B1.out 4).trans rfl)⟩ (fun hHeld => ?_)
    clear hK K
    refine norm_ (a' := ?_) ?_ ?_
    rotate_left
    ·show Act.put _ (some 13) _ = _
     simp only [Act.put, List.setIfInBounds_toArray, List.set_cons_zero, List.set_cons_succ, i64_w, i32_w]
     rfl
    exact norm_ (by simp only [putAll, Act.put, List.setIfInBounds_toArray, List.set_cons_zero, List.set_cons_succ]) (hCont (g13, g14, g15) _ ⟨B1, HB, B13, B14, B15, HG13, HG14, HG15, HNE⟩)
  ·skip
   refine value_ (w1 := ?_) (v := ?_) (by rfl) rfl ?_ ?_
   rotate_left 2
   ·go_simp
    constructor
    ·rfl
    ·rfl
   have hbk : Below W1.heap.size W1 (W1.alloc (.map #[] 0)) := below_alloc (Below.refl _ _) _
   have n_B1 := Aside0.mk (blk_below B1.out hbk)
   have n_HB := Aside0.mk (below_step HB.out hbk)
   have B15 := Aside0.mk (blk_new W1 (.map #[] 0))
   have HG15 := Aside0.mk (show w.heap.size ≤ W1.heap.size from HB.out.size)
   clear hbk B1 HB
   have B1 := n_B1
   have HB := n_HB
   clear n_B1 n_HB
   generalize W1.alloc (.map #[] 0) = w15 at B1 HB B15 ⊢
   generalize W1.heap.size = g15 at B15 HG15  ⊢
   refine hK.out _ _ ⟨((blk_cell B1.out 0).trans rfl), ((blk_cell B1.out 1).trans rfl), ((blk_cell B1.out 2).trans rfl), ((blk_cell B1.out 3).trans rfl), ((blk_cell B1.out 4).trans rfl)⟩ (fun hHeld => ?_)
   clear hK K
   refine norm_ (a' := ?_) ?_ ?_
   rotate_left
   ·show Act.put _ (some 15) _ = _
    simp only [Act.put, List.setIfInBounds_toArray, List.set_cons_zero, List.set_cons_succ, i64_w, i32_w]
    rfl
   refine two_ (i := 3) (j := 4) (Ni := some 13) (Nj := some 14) (lb_ 10 47) (lb_ 10 55) rfl rfl rfl rfl (two_of HT_.out (by kernel_rfl)) (by decide) (by decide) (fun K hK => ?_) (fun K hK => ?_)
   ·skip
    refine value_ (w1 := ?_) (v := ?_) (by rfl) rfl ?_ ?_
    rotate_left 2
    ·go_simp
     constructor
     ·rfl
     ·rfl
    have hbk : Below w15.heap.size w15 (w15.alloc (.cells (madeCells #[.int .i64 0, .int .i64 0, .int .i64 0] (n * 3)) 107)) := below_alloc (Below.refl _ _) _
    have n_B1 := Aside0.mk (blk_below B1.out hbk)
    have n_HB := Aside0.mk (below_step HB.out hbk)
    have n_B15 := Aside0.mk (blk_below B15.out hbk)
    have B13 := Aside0.mk (blk_new w15 (.cells (madeCells #[.int .i64 0, .int .i64 0, .int .i64 0] (n * 3)) 107))
    have HG13 := Aside0.mk (show w.heap.size ≤ w15.heap.size from HB.out.size)
    clear hbk B1 HB B15
    have B1 := n_B1
    have HB := n_HB
    have B15 := n_B15
    clear n_B1 n_HB n_B15
    generalize w15.alloc (.cells (madeCells #[.int .i64 0, .int .i64 0, .int .i64 0] (n * 3)) 107) = w13 at B1 HB B15 B13 ⊢
    generalize w15.heap.size = g13 at B13 HG13  ⊢
    refine hK.out _ _ ⟨((blk_cell B1.out 0).trans rfl), ((blk_cell B1.out 1).trans rfl), ((blk_cell B1.out 2).trans rfl), ((blk_cell B1.out 3).trans rfl), ((blk_cell B1.out 4).trans rfl)⟩ (fun hHeld => ?_)
    clear hK K
    refine norm_ (a' := ?_) ?_ ?_
    rotate_left
    ·show Act.put _ (some 13) _ = _
     simp only [Act.put, List.setIfInBounds_toArray, List.set_cons_zero, List.set_cons_succ, i64_w, i32_w]
     rfl
    refine one_ (i := 4) (N := some 14) (lb_ 10 63) rfl rfl (one_of HT_.out (by kernel_rfl)) (by decide) (fun K hK => ?_)
    refine value_ (w1 := ?_) (v := ?_) (by rfl) rfl ?_ ?_
    rotate_left 2
    ·go_simp
     constructor
     ·rfl
     ·rfl
    have hbk : Below w13.heap.size w13 (w13.alloc (.map #[] 0)) := below_alloc (Below.refl _ _) _
    have n_B1 := Aside0.mk (blk_below B1.out hbk)
    have n_HB := Aside0.mk (below_step HB.out hbk)
    have n_B15 := Aside0.mk (blk_below B15.out hbk)
    have n_B13 := Aside0.mk (blk_below B13.out hbk)
    have B14 := Aside0.mk (blk_new w13 (.map #[] 0))
    have HG14 := Aside0.mk (show w.heap.size ≤ w13.heap.size from HB.out.size)
    have HNE := Aside0.mk (show w13.heap.size ≠ g15 from Nat.ne_of_gt (blk_lt B15.out))
    clear hbk B1 HB B15 B13
    have B1 := n_B1
    have HB := n_HB
    have B15 := n_B15
    have B13 := n_B13
    clear n_B1 n_HB n_B15 n_B13
    generalize w13.alloc (.map #[] 0) = w14 at B1 HB B15 B13 B14 ⊢
    generalize w13.heap.size = g14 at B14 HG14 HNE ⊢
    refine hK.out _ _ ⟨((blk_cell B1.out 0).trans rfl), ((blk_cell B1.out 1).trans rfl), ((blk_cell B1.out 2).trans rfl), ((blk_cell B1.out 3).trans rfl), ((blk_cell B1.out 4).trans rfl)⟩ (fun hHeld => ?_)
    clear hK K
    refine norm_ (a' := ?_) ?_ ?_
    rotate_left
    ·show Act.put _ (some 14) _ = _
     simp only [Act.put, List.setIfInBounds_toArray, List.set_cons_zero, List.set_cons_succ, i64_w, i32_w]
     rfl
    exact norm_ (by simp only [putAll, Act.put, List.setIfInBounds_toArray, List.set_cons_zero, List.set_cons_succ]) (hCont (g13, g14, g15) _ ⟨B1, HB, B13, B14, B15, HG13, HG14, HG15, HNE⟩)
   ·skip
    refine value_ (w1 := ?_) (v := ?_) (by rfl) rfl ?_ ?_
    rotate_left 2
    ·go_simp
     constructor
     ·rfl
     ·rfl
    have hbk : Below w15.heap.size w15 (w15.alloc (.map #[] 0)) := below_alloc (Below.refl _ _) _
    have n_B1 := Aside0.mk (blk_below B1.out hbk)
    have n_HB := Aside0.mk (below_step HB.out hbk)
    have n_B15 := Aside0.mk (blk_below B15.out hbk)
    have B14 := Aside0.mk (blk_new w15 (.map #[] 0))
    have HG14 := Aside0.mk (show w.heap.size ≤ w15.heap.size from HB.out.size)
    have HNE := Aside0.mk (show w15.heap.size ≠ g15 from Nat.ne_of_gt (blk_lt B15.out))
    clear hbk B1 HB B15
    have B1 := n_B1
    have HB := n_HB
    have B15 := n_B15
    clear n_B1 n_HB n_B15
    generalize w15.alloc (.map #[] 0) = w14 at B1 HB B15 B14 ⊢
    generalize w15.heap.size = g14 at B14 HG14 HNE ⊢
    refine hK.out _ _ ⟨((blk_cell B1.out 0).trans rfl), ((blk_cell B1.out 1).trans rfl), ((blk_cell B1.out 2).trans rfl), ((blk_cell B1.out 3).trans rfl), ((blk_cell B1.out 4).trans rfl)⟩ (fun hHeld => ?_)
    clear hK K
    refine norm_ (a' := ?_) ?_ ?_
    rotate_left
    ·show Act.put _ (some 14) _ = _
     simp only [Act.put, List.setIfInBounds_toArray, List.set_cons_zero, List.set_cons_succ, i64_w, i32_w]
     rfl
    refine one_ (i := 3) (N := some 13) (lb_ 10 63) rfl rfl (one_of HT_.out (by kernel_rfl)) (by decide) (fun K hK => ?_)
    refine value_ (w1 := ?_) (v := ?_) (by rfl) rfl ?_ ?_
    rotate_left 2
    ·go_simp
     constructor
     ·rfl
     ·rfl
    have hbk : Below w14.heap.size w14 (w14.alloc (.cells (madeCells #[.int .i64 0, .int .i64 0, .int .i64 0] (n * 3)) 107)) := below_alloc (Below.refl _ _) _
    have n_B1 := Aside0.mk (blk_below B1.out hbk)
    have n_HB := Aside0.mk (below_step HB.out hbk)
    have n_B15 := Aside0.mk (blk_below B15.out hbk)
    have n_B14 := Aside0.mk (blk_below B14.out hbk)
    have B13 := Aside0.mk (blk_new w14 (.cells (madeCells #[.int .i64 0, .int .i64 0, .int .i64 0] (n * 3)) 107))
    have HG13 := Aside0.mk (show w.heap.size ≤ w14.heap.size from HB.out.size)
    clear hbk B1 HB B15 B14
    have B1 := n_B1
    have HB := n_HB
    have B15 := n_B15
    have B14 := n_B14
    clear n_B1 n_HB n_B15 n_B14
    generalize w14.alloc (.cells (madeCells #[.int .i64 0, .int .i64 0, .int .i64 0] (n * 3)) 107) = w13 at B1 HB B15 B14 B13 ⊢
    generalize w14.heap.size = g13 at B13 HG13  ⊢
    refine hK.out _ _ ⟨((blk_cell B1.out 0).trans rfl), ((blk_cell B1.out 1).trans rfl), ((blk_cell B1.out 2).trans rfl), ((blk_cell B1.out 3).trans rfl), ((blk_cell B1.out 4).trans rfl)⟩ (fun hHeld => ?_)
    clear hK K
    refine norm_ (a' := ?_) ?_ ?_
    rotate_left
    ·show Act.put _ (some 13) _ = _
     simp only [Act.put, List.setIfInBounds_toArray, List.set_cons_zero, List.set_cons_succ, i64_w, i32_w]
     rfl
    exact norm_ (by simp only [putAll, Act.put, List.setIfInBounds_toArray, List.set_cons_zero, List.set_cons_succ]) (hCont (g13, g14, g15) _ ⟨B1, HB, B13, B14, B15, HG13, HG14, HG15, HNE⟩)
 clear B1 HB hHeld
 rintro ⟨g13, g14, g15⟩ w16 ⟨B1, HB, B13, B14, B15, HG13, HG14, HG15, HNE⟩
 have hHeld := (show w16.cell? ⟨g1, 0, none⟩ = some (.int .i64 c.f0) ∧ w16.cell? ⟨g1, 1, none⟩ = some (.int .i64 c.f1) ∧ w16.cell? ⟨g1, 2, none⟩ = some (.int .i64 c.f2) ∧ w16.cell? ⟨g1, 3, none⟩ = some (.int .i64 c.f3) ∧ w16.cell? ⟨g1, 4, none⟩ = some (.int .i64 c.f4) from ⟨((blk_cell B1.out 0).trans rfl), ((blk_cell B1.out 1).trans rfl), ((blk_cell B1.out 2).trans rfl), ((blk_cell B1.out 3).trans rfl), ((blk_cell B1.out 4).trans rfl)⟩)
 dsimp only at B13 B14 B15 HG13 HG14 HG15 HNE
 refine norm_ (a' := ?_) ?_ ?_
 rotate_left
 ·simp only [putAll, Act.put, List.setIfInBounds_toArray, List.set_cons_zero, List.set_cons_succ]
  rfl
 refine pure_ (i := 6) (N := some 16) (v := ?_) (a' := ?_) (lb_ 10 127) rfl rfl (any_of HT_.out (by kernel_rfl)) (fun _ _ _ h => h) (Or.inl ⟨by rfl, ?_⟩) ?_ ?_; rotate_left
 ·intro w'; go_simp; with_reducible rfl
 rotate_left
 ·simp only [Act.put, List.setIfInBounds_toArray, List.set_cons_zero, List.set_cons_succ, i64_w, i32_w]; rfl
 refine one_ (i := 7) (N := some 17) (lb_ 10 255) rfl rfl (one_of HT_.out (by kernel_rfl)) (by decide) (fun K hK => ?_)
 refine value_ (w1 := ?_) (v := ?_) (by rfl) rfl ?_ ?_
 rotate_left 2
 ·go_simp
  constructor
  ·rfl
  ·rfl
 have hbk : Below w16.heap.size w16 (w16.alloc (.cells #[.int .i64 c.f0, .int .i64 c.f1, .int .i64 c.f2, .int .i64 c.f3, .int .i64 c.f4, .slice (some ⟨g13, 0, none⟩) n n, .map (some g14), .map (some g15)] 114)) := below_alloc (Below.refl _ _) _
 have n_B1 := Aside0.mk (blk_below B1.out hbk)
 have n_HB := Aside0.mk (below_step HB.out hbk)
 have n_B13 := Aside0.mk (blk_below B13.out hbk)
 have n_B14 := Aside0.mk (blk_below B14.out hbk)
 have n_B15 := Aside0.mk (blk_below B15.out hbk)
 have B17 := Aside0.mk (blk_new w16 (.cells #[.int .i64 c.f0, .int .i64 c.f1, .int .i64 c.f2, .int .i64 c.f3, .int .i64 c.f4, .slice (some ⟨g13, 0, none⟩) n n, .map (some g14), .map (some g15)] 114))
 have HG17 := Aside0.mk (show w.heap.size ≤ w16.heap.size from HB.out.size)
 clear hbk B1 HB B13 B14 B15
 have B1 := n_B1
 have HB := n_HB
 have B13 := n_B13
 have B14 := n_B14
 have B15 := n_B15
 clear n_B1 n_HB n_B13 n_B14 n_B15
 generalize w16.alloc (.cells #[.int .i64 c.f0, .int .i64 c.f1, .int .i64 c.f2, .int .i64 c.f3, .int .i64 c.f4, .slice (some ⟨g13, 0, none⟩) n n, .map (some g14), .map (some g15)] 114) = w17 at B1 HB B13 B14 B15 B17 ⊢
 generalize w16.heap.size = g17 at B17 HG17 ⊢
 refine hK.out _ _ ⟨((blk_cell B1.out 0).trans rfl), ((blk_cell B1.out 1).trans rfl), ((blk_cell B1.out 2).trans rfl), ((blk_cell B1.out 3).trans rfl), ((blk_cell B1.out 4).trans rfl)⟩ (fun hHeld => ?_)
 clear hK K
 refine norm_ (a' := ?_) ?_ ?_
 rotate_left
 ·show Act.put _ (some 17) _ = _
  simp only [Act.put, List.setIfInBounds_toArray, List.set_cons_zero, List.set_cons_succ, i64_w, i32_w]
  rfl
 refine pure_ (i := 8) (N := some 2) (v := ?_) (a' := ?_) (lb_ 10 511) rfl rfl (any_of HT_.out (by kernel_rfl)) (fun _ _ _ h => h) (Or.inl ⟨by rfl, ?_⟩) ?_ ?_; rotate_left
 ·intro w'; go_simp; with_reducible rfl
 rotate_left
 ·simp only [Act.put, List.setIfInBounds_toArray, List.set_cons_zero, List.set_cons_succ, i64_w, i32_w]; rfl
 refine pure_ (i := 9) (N := some 3) (v := ?_) (a' := ?_) (lb_ 10 1023) rfl rfl (any_of HT_.out (by kernel_rfl)) (fun _ _ _ h => h) (Or.inl ⟨by rfl, ?_⟩) ?_ ?_; rotate_left
 ·intro w'; go_simp; with_reducible rfl
 rotate_left
 ·simp only [Act.put, List.setIfInBounds_toArray, List.set_cons_zero, List.set_cons_succ, i64_w, i32_w]; rfl
 refine done_ (done_of HT_.out (by kernel_rfl)) ?_
 go_wp2
 go_ret2
 exact ⟨g17, g13, g14, g15, rfl, BookAt.new c n HN.out HC.out B17.out B13.out B14.out B15.out HNE.out, HB.out, HG17.out, HG13.out, HG14.out, HG15.out⟩
theorem p_New (c : S23) (h : Ok c.f0 c.f1 c.f2 c.f3 c.f4) (W : World) :
  Calls Try.prog 32 #[.agg #[.int .i64 c.f0, .int .i64 c.f1, .int .i64 c.f2, .int .i64 c.f3, .int .i64 c.f4]] W fun r w' => ∃ p gt go gn, r = .returned (.tuple #[.pointer (some ⟨p, 0, none⟩), .int .i64 0]) ∧ BookAt w' p gt go gn (newRB c) ∧ Below W.heap.size W w' ∧ W.heap.size ≤ p ∧ W.heap.size ≤ gt ∧ W.heap.size ≤ go ∧ W.heap.size ≤ gn :=
 bk_New_ok c c.f0.toNat (by have := h.1; omega) (by have := h.1; omega) W (fun W => conf_May.calls 8 c.f0 c.f1 c.f2 c.f3 c.f4 0 W (by rw [cmay_eq 0, if_pos h]))
theorem p_New_no (c : S23) (h : ¬ Ok c.f0 c.f1 c.f2 c.f3 c.f4) (W : World) :
  Calls Try.prog 32 #[.agg #[.int .i64 c.f0, .int .i64 c.f1, .int .i64 c.f2, .int .i64 c.f3, .int .i64 c.f4]] W fun r w' => r = .returned (.tuple #[.pointer none, .int .i64 1]) ∧ Below W.heap.size W w' :=
 bk_New_no c 1 (by decide) W (fun W => conf_May.calls 8 c.f0 c.f1 c.f2 c.f3 c.f4 1 W (by rw [cmay_eq 0, if_neg h]))
theorem grown_set {W W1 : World} {g j : Nat} (h : W.grownBy W1 (some g)) (v : Value) : W.grownBy (W1.setCell ⟨g, j, none⟩ v) (some g) :=
 ⟨h.os, h.tape, h.output, Nat.le_trans h.size (by simp), fun k hk hne => (Below.heap_setCell W1 ⟨g, j, none⟩ v k (fun e => hne (by rw [e]))).trans (h.block k hk hne)⟩
theorem grown_self (W : World) (g : Nat) : W.grownBy W (some g) := ⟨rfl, rfl, rfl, Nat.le_refl _, fun _ _ _ => rfl⟩
theorem grown10 (W : World) (g : Nat) {v0 v1 v2 v3 v4 v5 v6 v7 v8 v9 : Value} : W.grownBy ((((((((((W.setCell ⟨g, 0, none⟩ (v0)).setCell ⟨g, 1, none⟩ (v1)).setCell ⟨g, 2, none⟩ (v2)).setCell ⟨g, 3, none⟩ (v3)).setCell ⟨g, 4, none⟩ (v4)).setCell ⟨g, 5, none⟩ (v5)).setCell ⟨g, 6, none⟩ (v6)).setCell ⟨g, 7, none⟩ (v7)).setCell ⟨g, 8, none⟩ (v8)).setCell ⟨g, 9, none⟩ (v9)) (some g) := (grown_set (grown_set (grown_set (grown_set (grown_set (grown_set (grown_set (grown_set (grown_set (grown_set (grown_self W g) v0) v1) v2) v3) v4) v5) v6) v7) v8) v9)
theorem blk_grownW {W W1 : World} {g k : Nat} {ob : Obj} (h : W.heap[k]? = some ob) (hg : W.grownBy W1 (some g)) (hne : k ≠ g) : W1.heap[k]? = some ob :=
 (hg.block k ((Array.getElem?_eq_some_iff.mp h).1) (fun e => hne (Option.some.inj e))).trans h
theorem BookAt.far {w w1 : World} {p gt go gn : Nat} {b : RB} (h : BookAt w p gt go gn b) {g : Nat} (k : w.grownBy w1 (some g)) (hn : p ≠ g ∧ gt ≠ g ∧ go ≠ g ∧ gn ≠ g) : BookAt w1 p gt go gn b := by
 obtain ⟨cs, t1, t2⟩ := h.t
 exact ⟨blk_grownW h.p k hn.1, ⟨cs, blk_grownW t1 k hn.2.1, t2⟩, h.o.kept k (fun e => hn.2.2.1 (Option.some.inj e)), h.n.kept k (fun e => hn.2.2.2 (Option.some.inj e)), h.li, h.lm, h.small, h.ne⟩
theorem blk_touch {S : Nat → Prop} {W W1 : World} {k : Nat} {ob : Obj} (h : W.heap[k]? = some ob) (ht : Touch S W W1) (hs : ¬ S k) : W1.heap[k]? = some ob :=
 (ht.block k ((Array.getElem?_eq_some_iff.mp h).1) hs).trans h
theorem grown4 (W : World) (g : Nat) {v0 v1 v2 v3 : Value} : W.grownBy ((((W.setCell ⟨g, 0, none⟩ v0).setCell ⟨g, 1, none⟩ v1).setCell ⟨g, 2, none⟩ v2).setCell ⟨g, 3, none⟩ v3) (some g) := grown_set (grown_set (grown_set (grown_set (grown_self W g) v0) v1) v2) v3
theorem put4 {W : World} {g t : Nat} {z0 z1 z2 z3 v0 v1 v2 v3 : Value} (h : W.heap[g]? = some (.cells #[z0, z1, z2, z3] t (0, 0))) : ((((W.setCell ⟨g, 0, none⟩ v0).setCell ⟨g, 1, none⟩ v1).setCell ⟨g, 2, none⟩ v2).setCell ⟨g, 3, none⟩ v3).heap[g]? = some (.cells #[v0, v1, v2, v3] t (0, 0)) := by
 have h1 := (cel_put (cel_put (cel_put (cel_put h (i := 0) v0) (i := 1) v1) (i := 2) v2) (i := 3) v3)
 simpa only [List.setIfInBounds_toArray, List.set_cons_zero, List.set_cons_succ] using h1
theorem cnt_rep (n : Nat) (i : Int) : cnt (List.replicate n 0) i = 0 := by
 unfold cnt
 first | (split <;> simp [List.getD, List.getElem?_replicate] <;> split <;> rfl) | (simp [List.getD, List.getElem?_replicate]; done)

theorem ops_eq (k : Nat) (t b i f c : Int) : conf_Ops.f (k + 8) t b i f c = some (if Ok t b i f c then t * c else 0) := by
 unfold conf_Ops.f
 rw [cmay_eq]
 simp only [Option.bind_some]
 by_cases h : Ok t b i f c
 ·simp only [if_pos h]
  have hm := mul_le h.1.1 h.1.2 h.2.2.2.2.1 h.2.2.2.2.2
  rw [if_pos trivial, wrap64_eq (by omega) (by omega)]
 ·simp only [if_neg h]
  rw [if_neg (by decide)]
theorem nodes_eq (k : Nat) (t b i f c : Int) : conf_Nodes.f (k + 8) t b i f c = some (if Ok t b i f c then 1 + b + 2 * (t * c) else 0) := by
 unfold conf_Nodes.f
 rw [cmay_eq, ops_eq]
 simp only [Option.bind_some]
 by_cases h : Ok t b i f c
 ·simp only [if_pos h]
  have hm := mul_le h.1.1 h.1.2 h.2.2.2.2.1 h.2.2.2.2.2
  have hb := isPow_le h.2.1
  rw [if_pos trivial, wrap64_eq (n := 1 + b) (by omega) (by omega), wrap64_eq (n := 2 * (t * c)) (by omega) (by omega), wrap64_eq (by omega) (by omega)]
 ·simp only [if_neg h]
  rw [if_neg (by decide)]
theorem next_eq (k : Nat) (t b i f c n : Int) : layout_Next.f (k + 8) t b i f c n = some (if Ok t b i f c ∧ 0 ≤ n ∧ n < 1 + b + 2 * (t * c) then n else -1) := by
 unfold layout_Next.f
 rw [nodes_eq]
 simp only [Option.bind_some]
 by_cases h : Ok t b i f c
 ·simp only [if_pos h]
  simp only [h, true_and]
  by_cases g : n < 0
  ·rw [if_pos g, if_neg (by omega)]
  ·rw [if_neg g]
   by_cases g2 : n ≥ 1 + b + 2 * (t * c)
   ·rw [if_pos g2, if_neg (by omega)]
   ·rw [if_neg g2, if_pos (by omega)]
 ·simp only [if_neg h]
  simp only [h, false_and, if_false]
  by_cases g : n < 0
  ·rw [if_pos g]
  ·rw [if_neg g, if_pos (by omega)]
theorem word_eq (k : Nat) (t b i f c n : Int) : layout_Word.f (k + 8) t b i f c n = some (if Ok t b i f c ∧ 0 ≤ n ∧ n < t * c then 1 + b + 2 * (t * c) + n else -1) := by
 unfold layout_Word.f
 rw [ops_eq, nodes_eq]
 simp only [Option.bind_some]
 by_cases h : Ok t b i f c
 ·have hb := bnds h
  simp only [if_pos h]
  simp only [h, true_and]
  by_cases g : n < 0
  ·rw [if_pos g, if_neg (by omega)]
  ·rw [if_neg g]
   by_cases g2 : n ≥ t * c
   ·rw [if_pos g2, if_neg (by omega)]
   ·rw [if_neg g2, if_pos (by omega), wrap64_eq (by omega) (by omega)]
 ·simp only [if_neg h]
  simp only [h, false_and, if_false]
  by_cases g : n < 0
  ·rw [if_pos g]
  ·rw [if_neg g, if_pos (by omega)]
theorem ann_eq (k : Nat) (t b i f c n : Int) : layout_Ann.f (k + 8) t b i f c n = some (if Ok t b i f c ∧ 0 ≤ n ∧ n < t then 1 + b + 2 * (t * c) + t * c + n else -1) := by
 unfold layout_Ann.f
 rw [threads_eq, ops_eq, nodes_eq]
 simp only [Option.bind_some]
 by_cases h : Ok t b i f c
 ·have hb := bnds h
  simp only [if_pos h]
  simp only [h, true_and]
  by_cases g : n < 0
  ·rw [if_pos g, if_neg (by omega)]
  ·rw [if_neg g]
   by_cases g2 : n ≥ t
   ·rw [if_pos g2, if_neg (by omega)]
   ·rw [if_neg g2, if_pos (by omega), wrap64_eq (n := 1 + b + 2 * (t * c) + t * c) (by omega) (by omega), wrap64_eq (by omega) (by omega)]
 ·simp only [if_neg h]
  simp only [h, false_and, if_false]
  by_cases g : n < 0
  ·rw [if_pos g]
  ·rw [if_neg g, if_pos (by omega)]
theorem len_eq (k : Nat) (t b i f c : Int) : layout_Len.f (k + 8) t b i f c = some (if Ok t b i f c then 1 + b + 2 * (t * c) + t * c + t else 0) := by
 unfold layout_Len.f
 rw [threads_eq, ops_eq, nodes_eq]
 simp only [Option.bind_some]
 by_cases h : Ok t b i f c
 ·have hb := bnds h
  simp only [if_pos h]
  rw [wrap64_eq (n := 1 + b + 2 * (t * c) + t * c) (by omega) (by omega), wrap64_eq (by omega) (by omega)]
 ·simp only [if_neg h]
  rw [wrap64_eq (n := 0 + 0) (by omega) (by omega), wrap64_eq (by omega) (by omega)]
  rfl
theorem head_eq (k : Nat) (t b i f c n : Int) : layout_Head.f (k + 8) t b i f c n = some (if Ok t b i f c ∧ 0 ≤ n ∧ n < b then 1 + n else -1) := by
 unfold layout_Head.f
 rw [threads_eq]
 simp only [Option.bind_some]
 by_cases h : Ok t b i f c
 ·have hb := bnds h
  simp only [if_pos h]
  simp only [h, true_and]
  rw [if_neg (by omega)]
  by_cases g : n < 0
  ·rw [if_pos g, if_neg (by omega)]
  ·rw [if_neg g]
   by_cases g2 : n ≥ b
   ·rw [if_pos g2, if_neg (by omega)]
   ·rw [if_neg g2, if_pos (by omega), wrap64_eq (by omega) (by omega)]
 ·simp only [if_neg h]
  simp only [h, false_and, if_false, if_true]
structure WAt (W : World) (pw gc gw : Nat) (bk : Value) (c : S23) (ws : List Int) (st : Int) : Prop where
 w : W.heap[pw]? = some (.cells #[.int .i64 c.f0, .int .i64 c.f1, .int .i64 c.f2, .int .i64 c.f3, .int .i64 c.f4, .pointer (some ⟨gc, 0, none⟩), bk] 40 (0, 0))
 m : CellsAt W gc gw ws st
 n1 : pw ≠ gc
 n2 : pw ≠ gw
theorem CellsAt.drew {w : World} {gc gw : Nat} {ws : List Int} {st : Int} (h : CellsAt w gc gw ws st) : CellsAt w.drew gc gw ws st := ⟨h.c, h.w, h.ne⟩
section
variable {W W1 : World} {pw gc gw : Nat} {bk : Value} {c : S23} {ws ws1 : List Int} {st st1 : Int}
theorem WAt.below (h : WAt W pw gc gw bk c ws st) (hb : Below W.heap.size W W1) : WAt W1 pw gc gw bk c ws st := ⟨blk_below h.w hb, h.m.below hb, h.n1, h.n2⟩
theorem WAt.drew (h : WAt W pw gc gw bk c ws st) : WAt W.drew pw gc gw bk c ws st := ⟨h.w, h.m.drew, h.n1, h.n2⟩
theorem WAt.turn (h : WAt W pw gc gw bk c ws st) (hA : CellsAt W1 gc gw ws1 st1) (hT : Touch (fun k => k = gc ∨ k = gw) W W1) : WAt W1 pw gc gw bk c ws1 st1 :=
 ⟨blk_touch h.w hT (fun e => e.elim h.n1 h.n2), hA, h.n1, h.n2⟩
theorem WAt.lt (h : WAt W pw gc gw bk c ws st) : pw < W.heap.size ∧ gc < W.heap.size ∧ gw < W.heap.size := ⟨blk_lt h.w, h.m.lt⟩
end
def wl_Word1_lb (n m : Nat) : Array Bool := ((List.range n).map (fun i => m.testBit i)).toArray
def wl_Word1.T1 : Bool × List (List Nat × List Nat) := (true, [([], []), ([0], [0]), ([1], [1]), ([2], [2]), ([], []), ([4], [4]), ([5], [5]), ([6], [6]), ([], []), ([7, 8], [7, 8]), ([3, 9, 9], [3, 9]), ([10, 10, 0, 1, 2, 3, 4, 5, 6, 7, 8, 9, 10], [10])])
def wl_Word1.B1 : List Nat := [0, 1, 3, 7, 0, 16, 48, 112, 0, 496, 1023, 2047]
theorem wl_Word1.tab1 : rtab .any (opsOf Try.f46 1) = wl_Word1.T1 := by kernel_rfl
theorem wl_Word1.bits1 : waitsOk wl_Word1.T1.2 wl_Word1.B1 = true := by kernel_rfl
set_option maxHeartbeats 8000000 in
set_option maxRecDepth 100000 in
theorem wl_Word1 (pw gc gw : Nat) (bk : Value) (c : S23) (ws : List Int) (st : Int) (g1 g2 : Nat) (n x : Int) (W : World) (h : WAt W pw gc gw bk c ws st) (hB1 : W.heap[g1]? = some (.cells #[.pointer (some ⟨pw, 0, none⟩)] 30 (0, 0))) (hB2 : W.heap[g2]? = some (.cells #[.int .i64 n] 3 (0, 0))) (hne : (g1 ≠ gc ∧ g1 ≠ gw) ∧ (g2 ≠ gc ∧ g2 ≠ gw)) (hx : ∀ W : World, Calls Try.prog 41 #[.agg #[.int .i64 c.f0, .int .i64 c.f1, .int .i64 c.f2, .int .i64 c.f3, .int .i64 c.f4], .int .i64 n] W (fun e w' => e = .returned (.int .i64 x) ∧ Below W.heap.size W w')) :
  Calls Try.prog 46 #[.pointer (some ⟨g1, 0, none⟩), .pointer (some ⟨g2, 0, none⟩)] W fun e w' => e = .returned (.int .u64 (cRd ws x)) ∧ WAt w' pw gc gw bk c ws (cSt ws st x) ∧ Touch (fun k => k = gc ∨ k = gw) W w' := by
 have HA := Aside0.mk h
 have B1 := Aside0.mk hB1
 have B2 := Aside0.mk hB2
 have HNE := Aside0.mk hne
 have HT := Aside0.mk (Touch.refl (fun k => k = gc ∨ k = gw) W)
 clear h hne hB1 hB2
 go_enter Try.func46, Try.ntmps46
 go_upto_region 1 with fail
 have n_HA := Aside0.mk (HA.out.drew)
 have n_B1 := Aside0.mk (blk_drew B1.out)
 have n_B2 := Aside0.mk (blk_drew B2.out)
 have n_HT := Aside0.mk (HT.out.drew)
 clear HA B1 B2 HT
 have HA := n_HA
 have B1 := n_B1
 have B2 := n_B2
 have HT := n_HT
 clear n_HA n_B1 n_B2 n_HT
 refine start_ (n := 12) (S := fun w' => w'.cell? ⟨g1, 0, none⟩ = some (.pointer (some ⟨pw, 0, none⟩)) ∧ w'.cell? ⟨pw, 0, none⟩ = some (.int .i64 c.f0) ∧ w'.cell? ⟨pw, 1, none⟩ = some (.int .i64 c.f1) ∧ w'.cell? ⟨pw, 2, none⟩ = some (.int .i64 c.f2) ∧ w'.cell? ⟨pw, 3, none⟩ = some (.int .i64 c.f3) ∧ w'.cell? ⟨pw, 4, none⟩ = some (.int .i64 c.f4) ∧ w'.cell? ⟨pw, 5, none⟩ = some (.pointer (some ⟨gc, 0, none⟩)) ∧ w'.cell? ⟨g2, 0, none⟩ = some (.int .i64 n)) (ds := []) #[false, false, false, false, false, false, false, false, false, false, false, false] (by kernel_rfl) rfl rfl ⟨((blk_cell B1.out 0).trans rfl), ((blk_cell HA.out.w 0).trans rfl), ((blk_cell HA.out.w 1).trans rfl), ((blk_cell HA.out.w 2).trans rfl), ((blk_cell HA.out.w 3).trans rfl), ((blk_cell HA.out.w 4).trans rfl), ((blk_cell HA.out.w 5).trans rfl), ((blk_cell B2.out 0).trans rfl)⟩ (fun hHeld => ?_); refine with_tabW wl_Word1.tab1 wl_Word1.bits1 (fun HT_ HW_ => ?_)
 generalize W.drew = W1 at HA B1 B2 HT hHeld ⊢
 refine take_ (i := 0) (N := some 3) (v := ?_) (a' := ?_) (wl_Word1_lb 12 1) rfl rfl (take_ofW HT_.out HW_.out (by kernel_rfl)) (fun _ _ _ h => h) (Or.inl ⟨by rfl, ?_⟩) hHeld ?_ ?_; rotate_left
 ·rintro w' ⟨s0, s1, s2, s3, s4, s5, s6, s7⟩; go_simp; with_reducible rfl
 rotate_left
 ·simp only [Act.put, List.setIfInBounds_toArray, List.set_cons_zero, List.set_cons_succ, i64_w, i32_w]; rfl
 refine pure_ (i := 1) (N := some 4) (v := ?_) (a' := ?_) (wl_Word1_lb 12 3) rfl rfl (any_of HT_.out (by kernel_rfl)) (fun _ _ _ h => h) (Or.inl ⟨by rfl, ?_⟩) ?_ ?_; rotate_left
 ·intro w'; go_simp; with_reducible rfl
 rotate_left
 ·simp only [Act.put, List.setIfInBounds_toArray, List.set_cons_zero, List.set_cons_succ, i64_w, i32_w]; rfl
 refine pure_ (i := 2) (N := some 5) (v := ?_) (a' := ?_) (wl_Word1_lb 12 7) rfl rfl (any_of HT_.out (by kernel_rfl)) (fun _ _ _ h => h) (Or.inl ⟨by rfl, ?_⟩) ?_ ?_; rotate_left
 ·intro w'; go_simp; with_reducible rfl
 rotate_left
 ·simp only [Act.put, List.setIfInBounds_toArray, List.set_cons_zero, List.set_cons_succ, i64_w, i32_w]; rfl
 refine take_ (i := 3) (N := some 6) (v := ?_) (a' := ?_) (wl_Word1_lb 12 15) rfl rfl (take_ofW HT_.out HW_.out (by kernel_rfl)) (fun _ _ _ h => h) (Or.inl ⟨by rfl, ?_⟩) hHeld ?_ ?_; rotate_left
 ·rintro w' ⟨s0, s1, s2, s3, s4, s5, s6, s7⟩; go_simp; with_reducible rfl
 rotate_left
 ·simp only [Act.put, List.setIfInBounds_toArray, List.set_cons_zero, List.set_cons_succ, i64_w, i32_w]; rfl
 refine take_ (i := 4) (N := some 7) (v := ?_) (a' := ?_) (wl_Word1_lb 12 31) rfl rfl (take_ofW HT_.out HW_.out (by kernel_rfl)) (fun _ _ _ h => h) (Or.inl ⟨by rfl, ?_⟩) hHeld ?_ ?_; rotate_left
 ·rintro w' ⟨s0, s1, s2, s3, s4, s5, s6, s7⟩; go_simp; with_reducible rfl
 rotate_left
 ·simp only [Act.put, List.setIfInBounds_toArray, List.set_cons_zero, List.set_cons_succ, i64_w, i32_w]; rfl
 refine pure_ (i := 5) (N := some 8) (v := ?_) (a' := ?_) (wl_Word1_lb 12 63) rfl rfl (any_of HT_.out (by kernel_rfl)) (fun _ _ _ h => h) (Or.inl ⟨by rfl, ?_⟩) ?_ ?_; rotate_left
 ·intro w'; go_simp; with_reducible rfl
 rotate_left
 ·simp only [Act.put, List.setIfInBounds_toArray, List.set_cons_zero, List.set_cons_succ, i64_w, i32_w]; rfl
 refine pure_ (i := 6) (N := some 9) (v := ?_) (a' := ?_) (wl_Word1_lb 12 127) rfl rfl (any_of HT_.out (by kernel_rfl)) (fun _ _ _ h => h) (Or.inl ⟨by rfl, ?_⟩) ?_ ?_; rotate_left
 ·intro w'; go_simp; with_reducible rfl
 rotate_left
 ·simp only [Act.put, List.setIfInBounds_toArray, List.set_cons_zero, List.set_cons_succ, i64_w, i32_w]; rfl
 refine take_ (i := 7) (N := some 10) (v := ?_) (a' := ?_) (wl_Word1_lb 12 255) rfl rfl (take_ofW HT_.out HW_.out (by kernel_rfl)) (fun _ _ _ h => h) (Or.inl ⟨by rfl, ?_⟩) hHeld ?_ ?_; rotate_left
 ·rintro w' ⟨s0, s1, s2, s3, s4, s5, s6, s7⟩; go_simp; with_reducible rfl
 rotate_left
 ·simp only [Act.put, List.setIfInBounds_toArray, List.set_cons_zero, List.set_cons_succ, i64_w, i32_w]; rfl
 refine take_ (i := 8) (N := some 11) (v := ?_) (a' := ?_) (wl_Word1_lb 12 511) rfl rfl (take_ofW HT_.out HW_.out (by kernel_rfl)) (fun _ _ _ h => h) (Or.inl ⟨by rfl, ?_⟩) hHeld ?_ ?_; rotate_left
 ·rintro w' ⟨s0, s1, s2, s3, s4, s5, s6, s7⟩; go_simp; with_reducible rfl
 rotate_left
 ·simp only [Act.put, List.setIfInBounds_toArray, List.set_cons_zero, List.set_cons_succ, i64_w, i32_w]; rfl
 refine one_ (i := 9) (N := some 12) (wl_Word1_lb 12 1023) rfl rfl (one_of HT_.out (by kernel_rfl)) (by decide) (fun K hK => ?_)
 refine goes_ Try.func41 (by kernel_rfl) rfl #[.agg #[.int .i64 c.f0, .int .i64 c.f1, .int .i64 c.f2, .int .i64 c.f3, .int .i64 c.f4], .int .i64 n] (by rfl) rfl rfl (by (try simp only [List.map_toArray, List.map_cons, List.map_nil]); first | done | rfl) ?_
 with_reducible refine (hx _).mono ?_
 rintro e u1 ⟨rfl, hbk⟩
 refine ⟨_, rfl, ?_⟩
 have n_HA := Aside0.mk (HA.out.below hbk)
 have n_B1 := Aside0.mk (blk_below B1.out hbk)
 have n_B2 := Aside0.mk (blk_below B2.out hbk)
 have n_HT := Aside0.mk (HT.out.trans (.of_below hbk))
 clear HA B1 B2 HT hbk
 have HA := n_HA
 have B1 := n_B1
 have B2 := n_B2
 have HT := n_HT
 clear n_HA n_B1 n_B2 n_HT
 refine hK.out _ _ ⟨((blk_cell B1.out 0).trans rfl), ((blk_cell HA.out.w 0).trans rfl), ((blk_cell HA.out.w 1).trans rfl), ((blk_cell HA.out.w 2).trans rfl), ((blk_cell HA.out.w 3).trans rfl), ((blk_cell HA.out.w 4).trans rfl), ((blk_cell HA.out.w 5).trans rfl), ((blk_cell B2.out 0).trans rfl)⟩ (fun hHeld => ?_)
 clear hK K
 refine norm_ (a' := ?_) ?_ ?_
 rotate_left
 ·show Act.put _ (some 12) _ = _
  simp only [Act.put, List.setIfInBounds_toArray, List.set_cons_zero, List.set_cons_succ, i64_w, i32_w]
  rfl
 refine one_ (i := 10) (N := some 13) (wl_Word1_lb 12 2047) rfl rfl (one_of HT_.out (by kernel_rfl)) (by decide) (fun K hK => ?_)
 refine goes_ Try.func45 (by kernel_rfl) rfl #[.pointer (some ⟨gc, 0, none⟩), .int .i64 x] (by rfl) rfl rfl (by (try simp only [List.map_toArray, List.map_cons, List.map_nil]); first | done | rfl) ?_
 with_reducible refine (cel_Load gc gw ws st x _ HA.out.m).mono ?_
 rintro e u2 ⟨rfl, hA, hT⟩
 refine ⟨_, rfl, ?_⟩
 have hne := HNE.out
 have n_HA := Aside0.mk (HA.out.turn hA hT)
 have n_HT := Aside0.mk (HT.out.trans hT)
 have n_B1 := Aside0.mk (blk_touch B1.out hT (fun e => e.elim hne.1.1 hne.1.2))
 have n_B2 := Aside0.mk (blk_touch B2.out hT (fun e => e.elim hne.2.1 hne.2.2))
 clear HA HT B1 B2 hA hT hne
 have HA := n_HA
 have HT := n_HT
 have B1 := n_B1
 have B2 := n_B2
 clear n_HA n_HT n_B1 n_B2
 refine hK.out _ _ ⟨((blk_cell B1.out 0).trans rfl), ((blk_cell HA.out.w 0).trans rfl), ((blk_cell HA.out.w 1).trans rfl), ((blk_cell HA.out.w 2).trans rfl), ((blk_cell HA.out.w 3).trans rfl), ((blk_cell HA.out.w 4).trans rfl), ((blk_cell HA.out.w 5).trans rfl), ((blk_cell B2.out 0).trans rfl)⟩ (fun hHeld => ?_)
 clear hK K
 refine norm_ (a' := ?_) ?_ ?_
 rotate_left
 ·show Act.put _ (some 13) _ = _
  simp only [Act.put, List.setIfInBounds_toArray, List.set_cons_zero, List.set_cons_succ, i64_w, i32_w]
  rfl
 refine pure_ (i := 11) (N := some 2) (v := ?_) (a' := ?_) (wl_Word1_lb 12 4095) rfl rfl (any_of HT_.out (by kernel_rfl)) (fun _ _ _ h => h) (Or.inl ⟨by rfl, ?_⟩) ?_ ?_; rotate_left
 ·intro w'; go_simp; with_reducible rfl
 rotate_left
 ·simp only [Act.put, List.setIfInBounds_toArray, List.set_cons_zero, List.set_cons_succ, i64_w, i32_w]; rfl
 refine done_ (done_of HT_.out (by kernel_rfl)) ?_
 go_wp2
 go_ret
 exact ⟨rfl, HA.out, HT.out⟩
def wl_Ann1_lb (n m : Nat) : Array Bool := ((List.range n).map (fun i => m.testBit i)).toArray
def wl_Ann1.T1 : Bool × List (List Nat × List Nat) := (true, [([], []), ([0], [0]), ([1], [1]), ([2], [2]), ([], []), ([4], [4]), ([5], [5]), ([6], [6]), ([], []), ([7, 8], [7, 8]), ([3, 9, 9], [3, 9]), ([10], [10]), ([11, 10, 0, 1, 2, 3, 4, 5, 6, 7, 8, 9, 10, 11], [11])])
def wl_Ann1.B1 : List Nat := [0, 1, 3, 7, 0, 16, 48, 112, 0, 496, 1023, 2047, 4095]
theorem wl_Ann1.tab1 : rtab .any (opsOf Try.f48 1) = wl_Ann1.T1 := by kernel_rfl
theorem wl_Ann1.bits1 : waitsOk wl_Ann1.T1.2 wl_Ann1.B1 = true := by kernel_rfl
set_option maxHeartbeats 8000000 in
set_option maxRecDepth 100000 in
theorem wl_Ann1 (pw gc gw : Nat) (bk : Value) (c : S23) (ws : List Int) (st : Int) (g1 g2 : Nat) (n x : Int) (W : World) (h : WAt W pw gc gw bk c ws st) (hB1 : W.heap[g1]? = some (.cells #[.pointer (some ⟨pw, 0, none⟩)] 30 (0, 0))) (hB2 : W.heap[g2]? = some (.cells #[.int .i64 n] 3 (0, 0))) (hne : (g1 ≠ gc ∧ g1 ≠ gw) ∧ (g2 ≠ gc ∧ g2 ≠ gw)) (hx : ∀ W : World, Calls Try.prog 42 #[.agg #[.int .i64 c.f0, .int .i64 c.f1, .int .i64 c.f2, .int .i64 c.f3, .int .i64 c.f4], .int .i64 n] W (fun e w' => e = .returned (.int .i64 x) ∧ Below W.heap.size W w')) :
  Calls Try.prog 48 #[.pointer (some ⟨g1, 0, none⟩), .pointer (some ⟨g2, 0, none⟩)] W fun e w' => e = .returned (.int .i64 (wrap64 (cRd ws x))) ∧ WAt w' pw gc gw bk c ws (cSt ws st x) ∧ Touch (fun k => k = gc ∨ k = gw) W w' := by
 have HA := Aside0.mk h
 have B1 := Aside0.mk hB1
 have B2 := Aside0.mk hB2
 have HNE := Aside0.mk hne
 have HT := Aside0.mk (Touch.refl (fun k => k = gc ∨ k = gw) W)
 clear h hne hB1 hB2
 go_enter Try.func48, Try.ntmps48
 go_upto_region 1 with fail
 have n_HA := Aside0.mk (HA.out.drew)
 have n_B1 := Aside0.mk (blk_drew B1.out)
 have n_B2 := Aside0.mk (blk_drew B2.out)
 have n_HT := Aside0.mk (HT.out.drew)
 clear HA B1 B2 HT
 have HA := n_HA
 have B1 := n_B1
 have B2 := n_B2
 have HT := n_HT
 clear n_HA n_B1 n_B2 n_HT
 refine start_ (n := 13) (S := fun w' => w'.cell? ⟨g1, 0, none⟩ = some (.pointer (some ⟨pw, 0, none⟩)) ∧ w'.cell? ⟨pw, 0, none⟩ = some (.int .i64 c.f0) ∧ w'.cell? ⟨pw, 1, none⟩ = some (.int .i64 c.f1) ∧ w'.cell? ⟨pw, 2, none⟩ = some (.int .i64 c.f2) ∧ w'.cell? ⟨pw, 3, none⟩ = some (.int .i64 c.f3) ∧ w'.cell? ⟨pw, 4, none⟩ = some (.int .i64 c.f4) ∧ w'.cell? ⟨pw, 5, none⟩ = some (.pointer (some ⟨gc, 0, none⟩)) ∧ w'.cell? ⟨g2, 0, none⟩ = some (.int .i64 n)) (ds := []) #[false, false, false, false, false, false, false, false, false, false, false, false, false] (by kernel_rfl) rfl rfl ⟨((blk_cell B1.out 0).trans rfl), ((blk_cell HA.out.w 0).trans rfl), ((blk_cell HA.out.w 1).trans rfl), ((blk_cell HA.out.w 2).trans rfl), ((blk_cell HA.out.w 3).trans rfl), ((blk_cell HA.out.w 4).trans rfl), ((blk_cell HA.out.w 5).trans rfl), ((blk_cell B2.out 0).trans rfl)⟩ (fun hHeld => ?_); refine with_tabW wl_Ann1.tab1 wl_Ann1.bits1 (fun HT_ HW_ => ?_)
 generalize W.drew = W1 at HA B1 B2 HT hHeld ⊢
 refine take_ (i := 0) (N := some 3) (v := ?_) (a' := ?_) (wl_Ann1_lb 13 1) rfl rfl (take_ofW HT_.out HW_.out (by kernel_rfl)) (fun _ _ _ h => h) (Or.inl ⟨by rfl, ?_⟩) hHeld ?_ ?_; rotate_left
 ·rintro w' ⟨s0, s1, s2, s3, s4, s5, s6, s7⟩; go_simp; with_reducible rfl
 rotate_left
 ·simp only [Act.put, List.setIfInBounds_toArray, List.set_cons_zero, List.set_cons_succ, i64_w, i32_w]; rfl
 refine pure_ (i := 1) (N := some 4) (v := ?_) (a' := ?_) (wl_Ann1_lb 13 3) rfl rfl (any_of HT_.out (by kernel_rfl)) (fun _ _ _ h => h) (Or.inl ⟨by rfl, ?_⟩) ?_ ?_; rotate_left
 ·intro w'; go_simp; with_reducible rfl
 rotate_left
 ·simp only [Act.put, List.setIfInBounds_toArray, List.set_cons_zero, List.set_cons_succ, i64_w, i32_w]; rfl
 refine pure_ (i := 2) (N := some 5) (v := ?_) (a' := ?_) (wl_Ann1_lb 13 7) rfl rfl (any_of HT_.out (by kernel_rfl)) (fun _ _ _ h => h) (Or.inl ⟨by rfl, ?_⟩) ?_ ?_; rotate_left
 ·intro w'; go_simp; with_reducible rfl
 rotate_left
 ·simp only [Act.put, List.setIfInBounds_toArray, List.set_cons_zero, List.set_cons_succ, i64_w, i32_w]; rfl
 refine take_ (i := 3) (N := some 6) (v := ?_) (a' := ?_) (wl_Ann1_lb 13 15) rfl rfl (take_ofW HT_.out HW_.out (by kernel_rfl)) (fun _ _ _ h => h) (Or.inl ⟨by rfl, ?_⟩) hHeld ?_ ?_; rotate_left
 ·rintro w' ⟨s0, s1, s2, s3, s4, s5, s6, s7⟩; go_simp; with_reducible rfl
 rotate_left
 ·simp only [Act.put, List.setIfInBounds_toArray, List.set_cons_zero, List.set_cons_succ, i64_w, i32_w]; rfl
 refine take_ (i := 4) (N := some 7) (v := ?_) (a' := ?_) (wl_Ann1_lb 13 31) rfl rfl (take_ofW HT_.out HW_.out (by kernel_rfl)) (fun _ _ _ h => h) (Or.inl ⟨by rfl, ?_⟩) hHeld ?_ ?_; rotate_left
 ·rintro w' ⟨s0, s1, s2, s3, s4, s5, s6, s7⟩; go_simp; with_reducible rfl
 rotate_left
 ·simp only [Act.put, List.setIfInBounds_toArray, List.set_cons_zero, List.set_cons_succ, i64_w, i32_w]; rfl
 refine pure_ (i := 5) (N := some 8) (v := ?_) (a' := ?_) (wl_Ann1_lb 13 63) rfl rfl (any_of HT_.out (by kernel_rfl)) (fun _ _ _ h => h) (Or.inl ⟨by rfl, ?_⟩) ?_ ?_; rotate_left
 ·intro w'; go_simp; with_reducible rfl
 rotate_left
 ·simp only [Act.put, List.setIfInBounds_toArray, List.set_cons_zero, List.set_cons_succ, i64_w, i32_w]; rfl
 refine pure_ (i := 6) (N := some 9) (v := ?_) (a' := ?_) (wl_Ann1_lb 13 127) rfl rfl (any_of HT_.out (by kernel_rfl)) (fun _ _ _ h => h) (Or.inl ⟨by rfl, ?_⟩) ?_ ?_; rotate_left
 ·intro w'; go_simp; with_reducible rfl
 rotate_left
 ·simp only [Act.put, List.setIfInBounds_toArray, List.set_cons_zero, List.set_cons_succ, i64_w, i32_w]; rfl
 refine take_ (i := 7) (N := some 10) (v := ?_) (a' := ?_) (wl_Ann1_lb 13 255) rfl rfl (take_ofW HT_.out HW_.out (by kernel_rfl)) (fun _ _ _ h => h) (Or.inl ⟨by rfl, ?_⟩) hHeld ?_ ?_; rotate_left
 ·rintro w' ⟨s0, s1, s2, s3, s4, s5, s6, s7⟩; go_simp; with_reducible rfl
 rotate_left
 ·simp only [Act.put, List.setIfInBounds_toArray, List.set_cons_zero, List.set_cons_succ, i64_w, i32_w]; rfl
 refine take_ (i := 8) (N := some 11) (v := ?_) (a' := ?_) (wl_Ann1_lb 13 511) rfl rfl (take_ofW HT_.out HW_.out (by kernel_rfl)) (fun _ _ _ h => h) (Or.inl ⟨by rfl, ?_⟩) hHeld ?_ ?_; rotate_left
 ·rintro w' ⟨s0, s1, s2, s3, s4, s5, s6, s7⟩; go_simp; with_reducible rfl
 rotate_left
 ·simp only [Act.put, List.setIfInBounds_toArray, List.set_cons_zero, List.set_cons_succ, i64_w, i32_w]; rfl
 refine one_ (i := 9) (N := some 12) (wl_Ann1_lb 13 1023) rfl rfl (one_of HT_.out (by kernel_rfl)) (by decide) (fun K hK => ?_)
 refine goes_ Try.func42 (by kernel_rfl) rfl #[.agg #[.int .i64 c.f0, .int .i64 c.f1, .int .i64 c.f2, .int .i64 c.f3, .int .i64 c.f4], .int .i64 n] (by rfl) rfl rfl (by (try simp only [List.map_toArray, List.map_cons, List.map_nil]); first | done | rfl) ?_
 with_reducible refine (hx _).mono ?_
 rintro e u1 ⟨rfl, hbk⟩
 refine ⟨_, rfl, ?_⟩
 have n_HA := Aside0.mk (HA.out.below hbk)
 have n_B1 := Aside0.mk (blk_below B1.out hbk)
 have n_B2 := Aside0.mk (blk_below B2.out hbk)
 have n_HT := Aside0.mk (HT.out.trans (.of_below hbk))
 clear HA B1 B2 HT hbk
 have HA := n_HA
 have B1 := n_B1
 have B2 := n_B2
 have HT := n_HT
 clear n_HA n_B1 n_B2 n_HT
 refine hK.out _ _ ⟨((blk_cell B1.out 0).trans rfl), ((blk_cell HA.out.w 0).trans rfl), ((blk_cell HA.out.w 1).trans rfl), ((blk_cell HA.out.w 2).trans rfl), ((blk_cell HA.out.w 3).trans rfl), ((blk_cell HA.out.w 4).trans rfl), ((blk_cell HA.out.w 5).trans rfl), ((blk_cell B2.out 0).trans rfl)⟩ (fun hHeld => ?_)
 clear hK K
 refine norm_ (a' := ?_) ?_ ?_
 rotate_left
 ·show Act.put _ (some 12) _ = _
  simp only [Act.put, List.setIfInBounds_toArray, List.set_cons_zero, List.set_cons_succ, i64_w, i32_w]
  rfl
 refine one_ (i := 10) (N := some 13) (wl_Ann1_lb 13 2047) rfl rfl (one_of HT_.out (by kernel_rfl)) (by decide) (fun K hK => ?_)
 refine goes_ Try.func45 (by kernel_rfl) rfl #[.pointer (some ⟨gc, 0, none⟩), .int .i64 x] (by rfl) rfl rfl (by (try simp only [List.map_toArray, List.map_cons, List.map_nil]); first | done | rfl) ?_
 with_reducible refine (cel_Load gc gw ws st x _ HA.out.m).mono ?_
 rintro e u2 ⟨rfl, hA, hT⟩
 refine ⟨_, rfl, ?_⟩
 have hne := HNE.out
 have n_HA := Aside0.mk (HA.out.turn hA hT)
 have n_HT := Aside0.mk (HT.out.trans hT)
 have n_B1 := Aside0.mk (blk_touch B1.out hT (fun e => e.elim hne.1.1 hne.1.2))
 have n_B2 := Aside0.mk (blk_touch B2.out hT (fun e => e.elim hne.2.1 hne.2.2))
 clear HA HT B1 B2 hA hT hne
 have HA := n_HA
 have HT := n_HT
 have B1 := n_B1
 have B2 := n_B2
 clear n_HA n_HT n_B1 n_B2
 refine hK.out _ _ ⟨((blk_cell B1.out 0).trans rfl), ((blk_cell HA.out.w 0).trans rfl), ((blk_cell HA.out.w 1).trans rfl), ((blk_cell HA.out.w 2).trans rfl), ((blk_cell HA.out.w 3).trans rfl), ((blk_cell HA.out.w 4).trans rfl), ((blk_cell HA.out.w 5).trans rfl), ((blk_cell B2.out 0).trans rfl)⟩ (fun hHeld => ?_)
 clear hK K
 refine norm_ (a' := ?_) ?_ ?_
 rotate_left
 ·show Act.put _ (some 13) _ = _
  simp only [Act.put, List.setIfInBounds_toArray, List.set_cons_zero, List.set_cons_succ, i64_w, i32_w]
  rfl
 refine pure_ (i := 11) (N := some 14) (v := ?_) (a' := ?_) (wl_Ann1_lb 13 4095) rfl rfl (any_of HT_.out (by kernel_rfl)) (fun _ _ _ h => h) (Or.inl ⟨by rfl, ?_⟩) ?_ ?_; rotate_left
 ·intro w'; go_simp; with_reducible rfl
 rotate_left
 ·simp only [Act.put, List.setIfInBounds_toArray, List.set_cons_zero, List.set_cons_succ, i64_w, i32_w]; rfl
 refine pure_ (i := 12) (N := some 2) (v := ?_) (a' := ?_) (wl_Ann1_lb 13 8191) rfl rfl (any_of HT_.out (by kernel_rfl)) (fun _ _ _ h => h) (Or.inl ⟨by rfl, ?_⟩) ?_ ?_; rotate_left
 ·intro w'; go_simp; with_reducible rfl
 rotate_left
 ·simp only [Act.put, List.setIfInBounds_toArray, List.set_cons_zero, List.set_cons_succ, i64_w, i32_w]; rfl
 refine done_ (done_of HT_.out (by kernel_rfl)) ?_
 go_wp2
 go_ret
 exact ⟨rfl, HA.out, HT.out⟩
def wl_Link1_lb (n m : Nat) : Array Bool := ((List.range n).map (fun i => m.testBit i)).toArray
def wl_Link1.T1 : Bool × List (List Nat × List Nat) := (true, [([], []), ([0], [0]), ([1], [1]), ([2], [2]), ([], []), ([4], [4]), ([5], [5]), ([6], [6]), ([], []), ([7, 8], [7, 8]), ([], []), ([], []), ([3, 9, 10, 11, 9], [3, 9, 10, 11]), ([12, 12, 0, 1, 2, 3, 4, 5, 6, 7, 8, 9, 10, 11, 12], [12])])
def wl_Link1.B1 : List Nat := [0, 1, 3, 7, 0, 16, 48, 112, 0, 496, 0, 0, 4095, 8191]
theorem wl_Link1.tab1 : rtab .any (opsOf Try.f55 1) = wl_Link1.T1 := by kernel_rfl
theorem wl_Link1.bits1 : waitsOk wl_Link1.T1.2 wl_Link1.B1 = true := by kernel_rfl
set_option maxHeartbeats 8000000 in
set_option maxRecDepth 100000 in
theorem wl_Link1 (pw gc gw : Nat) (bk : Value) (c : S23) (ws : List Int) (st : Int) (g1 g2 g3 g4 : Nat) (n x : Int) (old : Int) (y : Int) (W : World) (h : WAt W pw gc gw bk c ws st) (hB1 : W.heap[g1]? = some (.cells #[.pointer (some ⟨pw, 0, none⟩)] 30 (0, 0))) (hB2 : W.heap[g2]? = some (.cells #[.int .i64 n] 3 (0, 0))) (hB3 : W.heap[g3]? = some (.cells #[.int .u64 old] 25 (0, 0))) (hB4 : W.heap[g4]? = some (.cells #[.int .u64 y] 25 (0, 0))) (hne : (g1 ≠ gc ∧ g1 ≠ gw) ∧ (g2 ≠ gc ∧ g2 ≠ gw) ∧ (g3 ≠ gc ∧ g3 ≠ gw) ∧ (g4 ≠ gc ∧ g4 ≠ gw)) (hx : ∀ W : World, Calls Try.prog 37 #[.agg #[.int .i64 c.f0, .int .i64 c.f1, .int .i64 c.f2, .int .i64 c.f3, .int .i64 c.f4], .int .i64 n] W (fun e w' => e = .returned (.int .i64 x) ∧ Below W.heap.size W w')) :
  Calls Try.prog 55 #[.pointer (some ⟨g1, 0, none⟩), .pointer (some ⟨g2, 0, none⟩), .pointer (some ⟨g3, 0, none⟩), .pointer (some ⟨g4, 0, none⟩)] W fun e w' => e = .returned (.bool (cSwB ws x old)) ∧ WAt w' pw gc gw bk c (cSwW ws x old y) (cSt ws st x) ∧ Touch (fun k => k = gc ∨ k = gw) W w' := by
 have HA := Aside0.mk h
 have B1 := Aside0.mk hB1
 have B2 := Aside0.mk hB2
 have B3 := Aside0.mk hB3
 have B4 := Aside0.mk hB4
 have HNE := Aside0.mk hne
 have HT := Aside0.mk (Touch.refl (fun k => k = gc ∨ k = gw) W)
 clear h hne hB1 hB2 hB3 hB4
 go_enter Try.func55, Try.ntmps55
 go_upto_region 1 with fail
 have n_HA := Aside0.mk (HA.out.drew)
 have n_B1 := Aside0.mk (blk_drew B1.out)
 have n_B2 := Aside0.mk (blk_drew B2.out)
 have n_B3 := Aside0.mk (blk_drew B3.out)
 have n_B4 := Aside0.mk (blk_drew B4.out)
 have n_HT := Aside0.mk (HT.out.drew)
 clear HA B1 B2 B3 B4 HT
 have HA := n_HA
 have B1 := n_B1
 have B2 := n_B2
 have B3 := n_B3
 have B4 := n_B4
 have HT := n_HT
 clear n_HA n_B1 n_B2 n_B3 n_B4 n_HT
 refine start_ (n := 14) (S := fun w' => w'.cell? ⟨g1, 0, none⟩ = some (.pointer (some ⟨pw, 0, none⟩)) ∧ w'.cell? ⟨pw, 0, none⟩ = some (.int .i64 c.f0) ∧ w'.cell? ⟨pw, 1, none⟩ = some (.int .i64 c.f1) ∧ w'.cell? ⟨pw, 2, none⟩ = some (.int .i64 c.f2) ∧ w'.cell? ⟨pw, 3, none⟩ = some (.int .i64 c.f3) ∧ w'.cell? ⟨pw, 4, none⟩ = some (.int .i64 c.f4) ∧ w'.cell? ⟨pw, 5, none⟩ = some (.pointer (some ⟨gc, 0, none⟩)) ∧ w'.cell? ⟨g2, 0, none⟩ = some (.int .i64 n) ∧ w'.cell? ⟨g3, 0, none⟩ = some (.int .u64 old) ∧ w'.cell? ⟨g4, 0, none⟩ = some (.int .u64 y)) (ds := []) #[false, false, false, false, false, false, false, false, false, false, false, false, false, false] (by kernel_rfl) rfl rfl ⟨((blk_cell B1.out 0).trans rfl), ((blk_cell HA.out.w 0).trans rfl), ((blk_cell HA.out.w 1).trans rfl), ((blk_cell HA.out.w 2).trans rfl), ((blk_cell HA.out.w 3).trans rfl), ((blk_cell HA.out.w 4).trans rfl), ((blk_cell HA.out.w 5).trans rfl), ((blk_cell B2.out 0).trans rfl), ((blk_cell B3.out 0).trans rfl), ((blk_cell B4.out 0).trans rfl)⟩ (fun hHeld => ?_); refine with_tabW wl_Link1.tab1 wl_Link1.bits1 (fun HT_ HW_ => ?_)
 generalize W.drew = W1 at HA B1 B2 B3 B4 HT hHeld ⊢
 refine take_ (i := 0) (N := some 5) (v := ?_) (a' := ?_) (wl_Link1_lb 14 1) rfl rfl (take_ofW HT_.out HW_.out (by kernel_rfl)) (fun _ _ _ h => h) (Or.inl ⟨by rfl, ?_⟩) hHeld ?_ ?_; rotate_left
 ·rintro w' ⟨s0, s1, s2, s3, s4, s5, s6, s7, s8, s9⟩; go_simp; with_reducible rfl
 rotate_left
 ·simp only [Act.put, List.setIfInBounds_toArray, List.set_cons_zero, List.set_cons_succ, i64_w, i32_w]; rfl
 refine pure_ (i := 1) (N := some 6) (v := ?_) (a' := ?_) (wl_Link1_lb 14 3) rfl rfl (any_of HT_.out (by kernel_rfl)) (fun _ _ _ h => h) (Or.inl ⟨by rfl, ?_⟩) ?_ ?_; rotate_left
 ·intro w'; go_simp; with_reducible rfl
 rotate_left
 ·simp only [Act.put, List.setIfInBounds_toArray, List.set_cons_zero, List.set_cons_succ, i64_w, i32_w]; rfl
 refine pure_ (i := 2) (N := some 7) (v := ?_) (a' := ?_) (wl_Link1_lb 14 7) rfl rfl (any_of HT_.out (by kernel_rfl)) (fun _ _ _ h => h) (Or.inl ⟨by rfl, ?_⟩) ?_ ?_; rotate_left
 ·intro w'; go_simp; with_reducible rfl
 rotate_left
 ·simp only [Act.put, List.setIfInBounds_toArray, List.set_cons_zero, List.set_cons_succ, i64_w, i32_w]; rfl
 refine take_ (i := 3) (N := some 8) (v := ?_) (a' := ?_) (wl_Link1_lb 14 15) rfl rfl (take_ofW HT_.out HW_.out (by kernel_rfl)) (fun _ _ _ h => h) (Or.inl ⟨by rfl, ?_⟩) hHeld ?_ ?_; rotate_left
 ·rintro w' ⟨s0, s1, s2, s3, s4, s5, s6, s7, s8, s9⟩; go_simp; with_reducible rfl
 rotate_left
 ·simp only [Act.put, List.setIfInBounds_toArray, List.set_cons_zero, List.set_cons_succ, i64_w, i32_w]; rfl
 refine take_ (i := 4) (N := some 9) (v := ?_) (a' := ?_) (wl_Link1_lb 14 31) rfl rfl (take_ofW HT_.out HW_.out (by kernel_rfl)) (fun _ _ _ h => h) (Or.inl ⟨by rfl, ?_⟩) hHeld ?_ ?_; rotate_left
 ·rintro w' ⟨s0, s1, s2, s3, s4, s5, s6, s7, s8, s9⟩; go_simp; with_reducible rfl
 rotate_left
 ·simp only [Act.put, List.setIfInBounds_toArray, List.set_cons_zero, List.set_cons_succ, i64_w, i32_w]; rfl
 refine pure_ (i := 5) (N := some 10) (v := ?_) (a' := ?_) (wl_Link1_lb 14 63) rfl rfl (any_of HT_.out (by kernel_rfl)) (fun _ _ _ h => h) (Or.inl ⟨by rfl, ?_⟩) ?_ ?_; rotate_left
 ·intro w'; go_simp; with_reducible rfl
 rotate_left
 ·simp only [Act.put, List.setIfInBounds_toArray, List.set_cons_zero, List.set_cons_succ, i64_w, i32_w]; rfl
 refine pure_ (i := 6) (N := some 11) (v := ?_) (a' := ?_) (wl_Link1_lb 14 127) rfl rfl (any_of HT_.out (by kernel_rfl)) (fun _ _ _ h => h) (Or.inl ⟨by rfl, ?_⟩) ?_ ?_; rotate_left
 ·intro w'; go_simp; with_reducible rfl
 rotate_left
 ·simp only [Act.put, List.setIfInBounds_toArray, List.set_cons_zero, List.set_cons_succ, i64_w, i32_w]; rfl
 refine take_ (i := 7) (N := some 12) (v := ?_) (a' := ?_) (wl_Link1_lb 14 255) rfl rfl (take_ofW HT_.out HW_.out (by kernel_rfl)) (fun _ _ _ h => h) (Or.inl ⟨by rfl, ?_⟩) hHeld ?_ ?_; rotate_left
 ·rintro w' ⟨s0, s1, s2, s3, s4, s5, s6, s7, s8, s9⟩; go_simp; with_reducible rfl
 rotate_left
 ·simp only [Act.put, List.setIfInBounds_toArray, List.set_cons_zero, List.set_cons_succ, i64_w, i32_w]; rfl
 refine take_ (i := 8) (N := some 13) (v := ?_) (a' := ?_) (wl_Link1_lb 14 511) rfl rfl (take_ofW HT_.out HW_.out (by kernel_rfl)) (fun _ _ _ h => h) (Or.inl ⟨by rfl, ?_⟩) hHeld ?_ ?_; rotate_left
 ·rintro w' ⟨s0, s1, s2, s3, s4, s5, s6, s7, s8, s9⟩; go_simp; with_reducible rfl
 rotate_left
 ·simp only [Act.put, List.setIfInBounds_toArray, List.set_cons_zero, List.set_cons_succ, i64_w, i32_w]; rfl
 refine take_ (i := 10) (N := some 15) (v := ?_) (a' := ?_) (wl_Link1_lb 14 1535) rfl rfl (take_ofW HT_.out HW_.out (by kernel_rfl)) (fun _ _ _ h => h) (Or.inl ⟨by rfl, ?_⟩) hHeld ?_ ?_; rotate_left
 ·rintro w' ⟨s0, s1, s2, s3, s4, s5, s6, s7, s8, s9⟩; go_simp; with_reducible rfl
 rotate_left
 ·simp only [Act.put, List.setIfInBounds_toArray, List.set_cons_zero, List.set_cons_succ, i64_w, i32_w]; rfl
 refine take_ (i := 11) (N := some 16) (v := ?_) (a' := ?_) (wl_Link1_lb 14 3583) rfl rfl (take_ofW HT_.out HW_.out (by kernel_rfl)) (fun _ _ _ h => h) (Or.inl ⟨by rfl, ?_⟩) hHeld ?_ ?_; rotate_left
 ·rintro w' ⟨s0, s1, s2, s3, s4, s5, s6, s7, s8, s9⟩; go_simp; with_reducible rfl
 rotate_left
 ·simp only [Act.put, List.setIfInBounds_toArray, List.set_cons_zero, List.set_cons_succ, i64_w, i32_w]; rfl
 refine one_ (i := 9) (N := some 14) (wl_Link1_lb 14 4095) rfl rfl (one_of HT_.out (by kernel_rfl)) (by decide) (fun K hK => ?_)
 refine goes_ Try.func37 (by kernel_rfl) rfl #[.agg #[.int .i64 c.f0, .int .i64 c.f1, .int .i64 c.f2, .int .i64 c.f3, .int .i64 c.f4], .int .i64 n] (by rfl) rfl rfl (by (try simp only [List.map_toArray, List.map_cons, List.map_nil]); first | done | rfl) ?_
 with_reducible refine (hx _).mono ?_
 rintro e u1 ⟨rfl, hbk⟩
 refine ⟨_, rfl, ?_⟩
 have n_HA := Aside0.mk (HA.out.below hbk)
 have n_B1 := Aside0.mk (blk_below B1.out hbk)
 have n_B2 := Aside0.mk (blk_below B2.out hbk)
 have n_B3 := Aside0.mk (blk_below B3.out hbk)
 have n_B4 := Aside0.mk (blk_below B4.out hbk)
 have n_HT := Aside0.mk (HT.out.trans (.of_below hbk))
 clear HA B1 B2 B3 B4 HT hbk
 have HA := n_HA
 have B1 := n_B1
 have B2 := n_B2
 have B3 := n_B3
 have B4 := n_B4
 have HT := n_HT
 clear n_HA n_B1 n_B2 n_B3 n_B4 n_HT
 refine hK.out _ _ ⟨((blk_cell B1.out 0).trans rfl), ((blk_cell HA.out.w 0).trans rfl), ((blk_cell HA.out.w 1).trans rfl), ((blk_cell HA.out.w 2).trans rfl), ((blk_cell HA.out.w 3).trans rfl), ((blk_cell HA.out.w 4).trans rfl), ((blk_cell HA.out.w 5).trans rfl), ((blk_cell B2.out 0).trans rfl), ((blk_cell B3.out 0).trans rfl), ((blk_cell B4.out 0).trans rfl)⟩ (fun hHeld => ?_)
 clear hK K
 refine norm_ (a' := ?_) ?_ ?_
 rotate_left
 ·show Act.put _ (some 14) _ = _
  simp only [Act.put, List.setIfInBounds_toArray, List.set_cons_zero, List.set_cons_succ, i64_w, i32_w]
  rfl
 refine one_ (i := 12) (N := some 17) (wl_Link1_lb 14 8191) rfl rfl (one_of HT_.out (by kernel_rfl)) (by decide) (fun K hK => ?_)
 refine goes_ Try.func40 (by kernel_rfl) rfl #[.pointer (some ⟨gc, 0, none⟩), .int .i64 x, .int .u64 old, .int .u64 y] (by rfl) rfl rfl (by (try simp only [List.map_toArray, List.map_cons, List.map_nil]); first | done | rfl) ?_
 with_reducible refine (cel_Swap gc gw ws st x old y _ HA.out.m).mono ?_
 rintro e u2 ⟨rfl, hA, hT⟩
 refine ⟨_, rfl, ?_⟩
 have hne := HNE.out
 have n_HA := Aside0.mk (HA.out.turn hA hT)
 have n_HT := Aside0.mk (HT.out.trans hT)
 have n_B1 := Aside0.mk (blk_touch B1.out hT (fun e => e.elim hne.1.1 hne.1.2))
 have n_B2 := Aside0.mk (blk_touch B2.out hT (fun e => e.elim hne.2.1.1 hne.2.1.2))
 have n_B3 := Aside0.mk (blk_touch B3.out hT (fun e => e.elim hne.2.2.1.1 hne.2.2.1.2))
 have n_B4 := Aside0.mk (blk_touch B4.out hT (fun e => e.elim hne.2.2.2.1 hne.2.2.2.2))
 clear HA HT B1 B2 B3 B4 hA hT hne
 have HA := n_HA
 have HT := n_HT
 have B1 := n_B1
 have B2 := n_B2
 have B3 := n_B3
 have B4 := n_B4
 clear n_HA n_HT n_B1 n_B2 n_B3 n_B4
 refine hK.out _ _ ⟨((blk_cell B1.out 0).trans rfl), ((blk_cell HA.out.w 0).trans rfl), ((blk_cell HA.out.w 1).trans rfl), ((blk_cell HA.out.w 2).trans rfl), ((blk_cell HA.out.w 3).trans rfl), ((blk_cell HA.out.w 4).trans rfl), ((blk_cell HA.out.w 5).trans rfl), ((blk_cell B2.out 0).trans rfl), ((blk_cell B3.out 0).trans rfl), ((blk_cell B4.out 0).trans rfl)⟩ (fun hHeld => ?_)
 clear hK K
 refine norm_ (a' := ?_) ?_ ?_
 rotate_left
 ·show Act.put _ (some 17) _ = _
  simp only [Act.put, List.setIfInBounds_toArray, List.set_cons_zero, List.set_cons_succ, i64_w, i32_w]
  rfl
 refine pure_ (i := 13) (N := some 4) (v := ?_) (a' := ?_) (wl_Link1_lb 14 16383) rfl rfl (any_of HT_.out (by kernel_rfl)) (fun _ _ _ h => h) (Or.inl ⟨by rfl, ?_⟩) ?_ ?_; rotate_left
 ·intro w'; go_simp; with_reducible rfl
 rotate_left
 ·simp only [Act.put, List.setIfInBounds_toArray, List.set_cons_zero, List.set_cons_succ, i64_w, i32_w]; rfl
 refine done_ (done_of HT_.out (by kernel_rfl)) ?_
 go_wp2
 go_ret
 exact ⟨rfl, HA.out, HT.out⟩
def wl_Turn1_lb (n m : Nat) : Array Bool := ((List.range n).map (fun i => m.testBit i)).toArray
def wl_Turn1.T1 : Bool × List (List Nat × List Nat) := (true, [([], []), ([0], [0]), ([1], [1]), ([2], [2]), ([], []), ([4], [4]), ([5], [5]), ([6], [6]), ([], []), ([7, 8], [7, 8]), ([], []), ([], []), ([3, 9, 10, 11, 9], [3, 9, 10, 11]), ([12, 12, 0, 1, 2, 3, 4, 5, 6, 7, 8, 9, 10, 11, 12], [12])])
def wl_Turn1.B1 : List Nat := [0, 1, 3, 7, 0, 16, 48, 112, 0, 496, 0, 0, 4095, 8191]
theorem wl_Turn1.tab1 : rtab .any (opsOf Try.f39 1) = wl_Turn1.T1 := by kernel_rfl
theorem wl_Turn1.bits1 : waitsOk wl_Turn1.T1.2 wl_Turn1.B1 = true := by kernel_rfl
set_option maxHeartbeats 8000000 in
set_option maxRecDepth 100000 in
theorem wl_Turn1 (pw gc gw : Nat) (bk : Value) (c : S23) (ws : List Int) (st : Int) (g1 g2 g3 g4 : Nat) (n x : Int) (old : Int) (y : Int) (W : World) (h : WAt W pw gc gw bk c ws st) (hB1 : W.heap[g1]? = some (.cells #[.pointer (some ⟨pw, 0, none⟩)] 30 (0, 0))) (hB2 : W.heap[g2]? = some (.cells #[.int .i64 n] 3 (0, 0))) (hB3 : W.heap[g3]? = some (.cells #[.int .u64 old] 25 (0, 0))) (hB4 : W.heap[g4]? = some (.cells #[.int .u64 y] 25 (0, 0))) (hne : (g1 ≠ gc ∧ g1 ≠ gw) ∧ (g2 ≠ gc ∧ g2 ≠ gw) ∧ (g3 ≠ gc ∧ g3 ≠ gw) ∧ (g4 ≠ gc ∧ g4 ≠ gw)) (hx : ∀ W : World, Calls Try.prog 41 #[.agg #[.int .i64 c.f0, .int .i64 c.f1, .int .i64 c.f2, .int .i64 c.f3, .int .i64 c.f4], .int .i64 n] W (fun e w' => e = .returned (.int .i64 x) ∧ Below W.heap.size W w')) :
  Calls Try.prog 39 #[.pointer (some ⟨g1, 0, none⟩), .pointer (some ⟨g2, 0, none⟩), .pointer (some ⟨g3, 0, none⟩), .pointer (some ⟨g4, 0, none⟩)] W fun e w' => e = .returned (.bool (cSwB ws x old)) ∧ WAt w' pw gc gw bk c (cSwW ws x old y) (cSt ws st x) ∧ Touch (fun k => k = gc ∨ k = gw) W w' := by
 have HA := Aside0.mk h
 have B1 := Aside0.mk hB1
 have B2 := Aside0.mk hB2
 have B3 := Aside0.mk hB3
 have B4 := Aside0.mk hB4
 have HNE := Aside0.mk hne
 have HT := Aside0.mk (Touch.refl (fun k => k = gc ∨ k = gw) W)
 clear h hne hB1 hB2 hB3 hB4
 go_enter Try.func39, Try.ntmps39
 go_upto_region 1 with fail
 have n_HA := Aside0.mk (HA.out.drew)
 have n_B1 := Aside0.mk (blk_drew B1.out)
 have n_B2 := Aside0.mk (blk_drew B2.out)
 have n_B3 := Aside0.mk (blk_drew B3.out)
 have n_B4 := Aside0.mk (blk_drew B4.out)
 have n_HT := Aside0.mk (HT.out.drew)
 clear HA B1 B2 B3 B4 HT
 have HA := n_HA
 have B1 := n_B1
 have B2 := n_B2
 have B3 := n_B3
 have B4 := n_B4
 have HT := n_HT
 clear n_HA n_B1 n_B2 n_B3 n_B4 n_HT
 refine start_ (n := 14) (S := fun w' => w'.cell? ⟨g1, 0, none⟩ = some (.pointer (some ⟨pw, 0, none⟩)) ∧ w'.cell? ⟨pw, 0, none⟩ = some (.int .i64 c.f0) ∧ w'.cell? ⟨pw, 1, none⟩ = some (.int .i64 c.f1) ∧ w'.cell? ⟨pw, 2, none⟩ = some (.int .i64 c.f2) ∧ w'.cell? ⟨pw, 3, none⟩ = some (.int .i64 c.f3) ∧ w'.cell? ⟨pw, 4, none⟩ = some (.int .i64 c.f4) ∧ w'.cell? ⟨pw, 5, none⟩ = some (.pointer (some ⟨gc, 0, none⟩)) ∧ w'.cell? ⟨g2, 0, none⟩ = some (.int .i64 n) ∧ w'.cell? ⟨g3, 0, none⟩ = some (.int .u64 old) ∧ w'.cell? ⟨g4, 0, none⟩ = some (.int .u64 y)) (ds := []) #[false, false, false, false, false, false, false, false, false, false, false, false, false, false] (by kernel_rfl) rfl rfl ⟨((blk_cell B1.out 0).trans rfl), ((blk_cell HA.out.w 0).trans rfl), ((blk_cell HA.out.w 1).trans rfl), ((blk_cell HA.out.w 2).trans rfl), ((blk_cell HA.out.w 3).trans rfl), ((blk_cell HA.out.w 4).trans rfl), ((blk_cell HA.out.w 5).trans rfl), ((blk_cell B2.out 0).trans rfl), ((blk_cell B3.out 0).trans rfl), ((blk_cell B4.out 0).trans rfl)⟩ (fun hHeld => ?_); refine with_tabW wl_Turn1.tab1 wl_Turn1.bits1 (fun HT_ HW_ => ?_)
 generalize W.drew = W1 at HA B1 B2 B3 B4 HT hHeld ⊢
 refine take_ (i := 0) (N := some 5) (v := ?_) (a' := ?_) (wl_Turn1_lb 14 1) rfl rfl (take_ofW HT_.out HW_.out (by kernel_rfl)) (fun _ _ _ h => h) (Or.inl ⟨by rfl, ?_⟩) hHeld ?_ ?_; rotate_left
 ·rintro w' ⟨s0, s1, s2, s3, s4, s5, s6, s7, s8, s9⟩; go_simp; with_reducible rfl
 rotate_left
 ·simp only [Act.put, List.setIfInBounds_toArray, List.set_cons_zero, List.set_cons_succ, i64_w, i32_w]; rfl
 refine pure_ (i := 1) (N := some 6) (v := ?_) (a' := ?_) (wl_Turn1_lb 14 3) rfl rfl (any_of HT_.out (by kernel_rfl)) (fun _ _ _ h => h) (Or.inl ⟨by rfl, ?_⟩) ?_ ?_; rotate_left
 ·intro w'; go_simp; with_reducible rfl
 rotate_left
 ·simp only [Act.put, List.setIfInBounds_toArray, List.set_cons_zero, List.set_cons_succ, i64_w, i32_w]; rfl
 refine pure_ (i := 2) (N := some 7) (v := ?_) (a' := ?_) (wl_Turn1_lb 14 7) rfl rfl (any_of HT_.out (by kernel_rfl)) (fun _ _ _ h => h) (Or.inl ⟨by rfl, ?_⟩) ?_ ?_; rotate_left
 ·intro w'; go_simp; with_reducible rfl
 rotate_left
 ·simp only [Act.put, List.setIfInBounds_toArray, List.set_cons_zero, List.set_cons_succ, i64_w, i32_w]; rfl
 refine take_ (i := 3) (N := some 8) (v := ?_) (a' := ?_) (wl_Turn1_lb 14 15) rfl rfl (take_ofW HT_.out HW_.out (by kernel_rfl)) (fun _ _ _ h => h) (Or.inl ⟨by rfl, ?_⟩) hHeld ?_ ?_; rotate_left
 ·rintro w' ⟨s0, s1, s2, s3, s4, s5, s6, s7, s8, s9⟩; go_simp; with_reducible rfl
 rotate_left
 ·simp only [Act.put, List.setIfInBounds_toArray, List.set_cons_zero, List.set_cons_succ, i64_w, i32_w]; rfl
 refine take_ (i := 4) (N := some 9) (v := ?_) (a' := ?_) (wl_Turn1_lb 14 31) rfl rfl (take_ofW HT_.out HW_.out (by kernel_rfl)) (fun _ _ _ h => h) (Or.inl ⟨by rfl, ?_⟩) hHeld ?_ ?_; rotate_left
 ·rintro w' ⟨s0, s1, s2, s3, s4, s5, s6, s7, s8, s9⟩; go_simp; with_reducible rfl
 rotate_left
 ·simp only [Act.put, List.setIfInBounds_toArray, List.set_cons_zero, List.set_cons_succ, i64_w, i32_w]; rfl
 refine pure_ (i := 5) (N := some 10) (v := ?_) (a' := ?_) (wl_Turn1_lb 14 63) rfl rfl (any_of HT_.out (by kernel_rfl)) (fun _ _ _ h => h) (Or.inl ⟨by rfl, ?_⟩) ?_ ?_; rotate_left
 ·intro w'; go_simp; with_reducible rfl
 rotate_left
 ·simp only [Act.put, List.setIfInBounds_toArray, List.set_cons_zero, List.set_cons_succ, i64_w, i32_w]; rfl
 refine pure_ (i := 6) (N := some 11) (v := ?_) (a' := ?_) (wl_Turn1_lb 14 127) rfl rfl (any_of HT_.out (by kernel_rfl)) (fun _ _ _ h => h) (Or.inl ⟨by rfl, ?_⟩) ?_ ?_; rotate_left
 ·intro w'; go_simp; with_reducible rfl
 rotate_left
 ·simp only [Act.put, List.setIfInBounds_toArray, List.set_cons_zero, List.set_cons_succ, i64_w, i32_w]; rfl
 refine take_ (i := 7) (N := some 12) (v := ?_) (a' := ?_) (wl_Turn1_lb 14 255) rfl rfl (take_ofW HT_.out HW_.out (by kernel_rfl)) (fun _ _ _ h => h) (Or.inl ⟨by rfl, ?_⟩) hHeld ?_ ?_; rotate_left
 ·rintro w' ⟨s0, s1, s2, s3, s4, s5, s6, s7, s8, s9⟩; go_simp; with_reducible rfl
 rotate_left
 ·simp only [Act.put, List.setIfInBounds_toArray, List.set_cons_zero, List.set_cons_succ, i64_w, i32_w]; rfl
 refine take_ (i := 8) (N := some 13) (v := ?_) (a' := ?_) (wl_Turn1_lb 14 511) rfl rfl (take_ofW HT_.out HW_.out (by kernel_rfl)) (fun _ _ _ h => h) (Or.inl ⟨by rfl, ?_⟩) hHeld ?_ ?_; rotate_left
 ·rintro w' ⟨s0, s1, s2, s3, s4, s5, s6, s7, s8, s9⟩; go_simp; with_reducible rfl
 rotate_left
 ·simp only [Act.put, List.setIfInBounds_toArray, List.set_cons_zero, List.set_cons_succ, i64_w, i32_w]; rfl
 refine take_ (i := 10) (N := some 15) (v := ?_) (a' := ?_) (wl_Turn1_lb 14 1535) rfl rfl (take_ofW HT_.out HW_.out (by kernel_rfl)) (fun _ _ _ h => h) (Or.inl ⟨by rfl, ?_⟩) hHeld ?_ ?_; rotate_left
 ·rintro w' ⟨s0, s1, s2, s3, s4, s5, s6, s7, s8, s9⟩; go_simp; with_reducible rfl
 rotate_left
 ·simp only [Act.put, List.setIfInBounds_toArray, List.set_cons_zero, List.set_cons_succ, i64_w, i32_w]; rfl
 refine take_ (i := 11) (N := some 16) (v := ?_) (a' := ?_) (wl_Turn1_lb 14 3583) rfl rfl (take_ofW HT_.out HW_.out (by kernel_rfl)) (fun _ _ _ h => h) (Or.inl ⟨by rfl, ?_⟩) hHeld ?_ ?_; rotate_left
 ·rintro w' ⟨s0, s1, s2, s3, s4, s5, s6, s7, s8, s9⟩; go_simp; with_reducible rfl
 rotate_left
 ·simp only [Act.put, List.setIfInBounds_toArray, List.set_cons_zero, List.set_cons_succ, i64_w, i32_w]; rfl
 refine one_ (i := 9) (N := some 14) (wl_Turn1_lb 14 4095) rfl rfl (one_of HT_.out (by kernel_rfl)) (by decide) (fun K hK => ?_)
 refine goes_ Try.func41 (by kernel_rfl) rfl #[.agg #[.int .i64 c.f0, .int .i64 c.f1, .int .i64 c.f2, .int .i64 c.f3, .int .i64 c.f4], .int .i64 n] (by rfl) rfl rfl (by (try simp only [List.map_toArray, List.map_cons, List.map_nil]); first | done | rfl) ?_
 with_reducible refine (hx _).mono ?_
 rintro e u1 ⟨rfl, hbk⟩
 refine ⟨_, rfl, ?_⟩
 have n_HA := Aside0.mk (HA.out.below hbk)
 have n_B1 := Aside0.mk (blk_below B1.out hbk)
 have n_B2 := Aside0.mk (blk_below B2.out hbk)
 have n_B3 := Aside0.mk (blk_below B3.out hbk)
 have n_B4 := Aside0.mk (blk_below B4.out hbk)
 have n_HT := Aside0.mk (HT.out.trans (.of_below hbk))
 clear HA B1 B2 B3 B4 HT hbk
 have HA := n_HA
 have B1 := n_B1
 have B2 := n_B2
 have B3 := n_B3
 have B4 := n_B4
 have HT := n_HT
 clear n_HA n_B1 n_B2 n_B3 n_B4 n_HT
 refine hK.out _ _ ⟨((blk_cell B1.out 0).trans rfl), ((blk_cell HA.out.w 0).trans rfl), ((blk_cell HA.out.w 1).trans rfl), ((blk_cell HA.out.w 2).trans rfl), ((blk_cell HA.out.w 3).trans rfl), ((blk_cell HA.out.w 4).trans rfl), ((blk_cell HA.out.w 5).trans rfl), ((blk_cell B2.out 0).trans rfl), ((blk_cell B3.out 0).trans rfl), ((blk_cell B4.out 0).trans rfl)⟩ (fun hHeld => ?_)
 clear hK K
 refine norm_ (a' := ?_) ?_ ?_
 rotate_left
 ·show Act.put _ (some 14) _ = _
  simp only [Act.put, List.setIfInBounds_toArray, List.set_cons_zero, List.set_cons_succ, i64_w, i32_w]
  rfl
 refine one_ (i := 12) (N := some 17) (wl_Turn1_lb 14 8191) rfl rfl (one_of HT_.out (by kernel_rfl)) (by decide) (fun K hK => ?_)
 refine goes_ Try.func40 (by kernel_rfl) rfl #[.pointer (some ⟨gc, 0, none⟩), .int .i64 x, .int .u64 old, .int .u64 y] (by rfl) rfl rfl (by (try simp only [List.map_toArray, List.map_cons, List.map_nil]); first | done | rfl) ?_
 with_reducible refine (cel_Swap gc gw ws st x old y _ HA.out.m).mono ?_
 rintro e u2 ⟨rfl, hA, hT⟩
 refine ⟨_, rfl, ?_⟩
 have hne := HNE.out
 have n_HA := Aside0.mk (HA.out.turn hA hT)
 have n_HT := Aside0.mk (HT.out.trans hT)
 have n_B1 := Aside0.mk (blk_touch B1.out hT (fun e => e.elim hne.1.1 hne.1.2))
 have n_B2 := Aside0.mk (blk_touch B2.out hT (fun e => e.elim hne.2.1.1 hne.2.1.2))
 have n_B3 := Aside0.mk (blk_touch B3.out hT (fun e => e.elim hne.2.2.1.1 hne.2.2.1.2))
 have n_B4 := Aside0.mk (blk_touch B4.out hT (fun e => e.elim hne.2.2.2.1 hne.2.2.2.2))
 clear HA HT B1 B2 B3 B4 hA hT hne
 have HA := n_HA
 have HT := n_HT
 have B1 := n_B1
 have B2 := n_B2
 have B3 := n_B3
 have B4 := n_B4
 clear n_HA n_HT n_B1 n_B2 n_B3 n_B4
 refine hK.out _ _ ⟨((blk_cell B1.out 0).trans rfl), ((blk_cell HA.out.w 0).trans rfl), ((blk_cell HA.out.w 1).trans rfl), ((blk_cell HA.out.w 2).trans rfl), ((blk_cell HA.out.w 3).trans rfl), ((blk_cell HA.out.w 4).trans rfl), ((blk_cell HA.out.w 5).trans rfl), ((blk_cell B2.out 0).trans rfl), ((blk_cell B3.out 0).trans rfl), ((blk_cell B4.out 0).trans rfl)⟩ (fun hHeld => ?_)
 clear hK K
 refine norm_ (a' := ?_) ?_ ?_
 rotate_left
 ·show Act.put _ (some 17) _ = _
  simp only [Act.put, List.setIfInBounds_toArray, List.set_cons_zero, List.set_cons_succ, i64_w, i32_w]
  rfl
 refine pure_ (i := 13) (N := some 4) (v := ?_) (a' := ?_) (wl_Turn1_lb 14 16383) rfl rfl (any_of HT_.out (by kernel_rfl)) (fun _ _ _ h => h) (Or.inl ⟨by rfl, ?_⟩) ?_ ?_; rotate_left
 ·intro w'; go_simp; with_reducible rfl
 rotate_left
 ·simp only [Act.put, List.setIfInBounds_toArray, List.set_cons_zero, List.set_cons_succ, i64_w, i32_w]; rfl
 refine done_ (done_of HT_.out (by kernel_rfl)) ?_
 go_wp2
 go_ret
 exact ⟨rfl, HA.out, HT.out⟩
set_option maxHeartbeats 8000000 in
set_option maxRecDepth 100000 in
theorem wl_of_Word1 (pw g1 g2 : Nat) (v : Int) (R : World → Prop) (W : World) (hc : Calls Try.prog 46 #[.pointer (some ⟨g1, 0, none⟩), .pointer (some ⟨g2, 0, none⟩)] W (fun e w' => e = .returned (.int .u64 v) ∧ R w')) :
  Calls Try.prog 43 #[.pointer (some ⟨pw, 0, none⟩), .func (.func 46) #[] #[.pointer (some ⟨g1, 0, none⟩), .pointer (some ⟨g2, 0, none⟩)]] W fun e w' => e = .returned (.int .u64 v) ∧ R w' := by
 have HC := Aside0.mk hc
 clear hc
 go_enter Try.func43, Try.ntmps43
 go_wp2_with (first | (go_at_call 46; (with_reducible refine HC.out.mono ?_); rintro e w1 ⟨rfl, hR⟩; have HR := Aside0.mk hR; clear hR))
 go_ret
 exact ⟨rfl, HR.out⟩
set_option maxHeartbeats 8000000 in
set_option maxRecDepth 100000 in
theorem wl_of_Next1 (pw g1 g2 : Nat) (v : Int) (R : World → Prop) (W : World) (hc : Calls Try.prog 44 #[.pointer (some ⟨g1, 0, none⟩), .pointer (some ⟨g2, 0, none⟩)] W (fun e w' => e = .returned (.int .u64 v) ∧ R w')) :
  Calls Try.prog 43 #[.pointer (some ⟨pw, 0, none⟩), .func (.func 44) #[] #[.pointer (some ⟨g1, 0, none⟩), .pointer (some ⟨g2, 0, none⟩)]] W fun e w' => e = .returned (.int .u64 v) ∧ R w' := by
 have HC := Aside0.mk hc
 clear hc
 go_enter Try.func43, Try.ntmps43
 go_wp2_with (first | (go_at_call 44; (with_reducible refine HC.out.mono ?_); rintro e w1 ⟨rfl, hR⟩; have HR := Aside0.mk hR; clear hR))
 go_ret
 exact ⟨rfl, HR.out⟩
set_option maxHeartbeats 8000000 in
set_option maxRecDepth 100000 in
theorem wl_of_Ann1 (pw g1 g2 : Nat) (v : Int) (R : World → Prop) (W : World) (hc : Calls Try.prog 48 #[.pointer (some ⟨g1, 0, none⟩), .pointer (some ⟨g2, 0, none⟩)] W (fun e w' => e = .returned (.int .i64 v) ∧ R w')) :
  Calls Try.prog 47 #[.pointer (some ⟨pw, 0, none⟩), .func (.func 48) #[] #[.pointer (some ⟨g1, 0, none⟩), .pointer (some ⟨g2, 0, none⟩)]] W fun e w' => e = .returned (.int .i64 v) ∧ R w' := by
 have HC := Aside0.mk hc
 clear hc
 go_enter Try.func47, Try.ntmps47
 go_wp2_with (first | (go_at_call 48; (with_reducible refine HC.out.mono ?_); rintro e w1 ⟨rfl, hR⟩; have HR := Aside0.mk hR; clear hR))
 go_ret
 exact ⟨rfl, HR.out⟩
set_option maxHeartbeats 8000000 in
set_option maxRecDepth 100000 in
theorem wl_of_Link1 (pw g1 g2 g3 g4 : Nat) (v : Bool) (R : World → Prop) (W : World) (hc : Calls Try.prog 55 #[.pointer (some ⟨g1, 0, none⟩), .pointer (some ⟨g2, 0, none⟩), .pointer (some ⟨g3, 0, none⟩), .pointer (some ⟨g4, 0, none⟩)] W (fun e w' => e = .returned (.bool v) ∧ R w')) :
  Calls Try.prog 38 #[.pointer (some ⟨pw, 0, none⟩), .func (.func 55) #[] #[.pointer (some ⟨g1, 0, none⟩), .pointer (some ⟨g2, 0, none⟩), .pointer (some ⟨g3, 0, none⟩), .pointer (some ⟨g4, 0, none⟩)]] W fun e w' => e = .returned (.bool v) ∧ R w' := by
 have HC := Aside0.mk hc
 clear hc
 go_enter Try.func38, Try.ntmps38
 go_wp2_with (first | (go_at_call 55; (with_reducible refine HC.out.mono ?_); rintro e w1 ⟨rfl, hR⟩; have HR := Aside0.mk hR; clear hR))
 go_ret
 exact ⟨rfl, HR.out⟩
set_option maxHeartbeats 8000000 in
set_option maxRecDepth 100000 in
theorem wl_of_Turn1 (pw g1 g2 g3 g4 : Nat) (v : Bool) (R : World → Prop) (W : World) (hc : Calls Try.prog 39 #[.pointer (some ⟨g1, 0, none⟩), .pointer (some ⟨g2, 0, none⟩), .pointer (some ⟨g3, 0, none⟩), .pointer (some ⟨g4, 0, none⟩)] W (fun e w' => e = .returned (.bool v) ∧ R w')) :
  Calls Try.prog 38 #[.pointer (some ⟨pw, 0, none⟩), .func (.func 39) #[] #[.pointer (some ⟨g1, 0, none⟩), .pointer (some ⟨g2, 0, none⟩), .pointer (some ⟨g3, 0, none⟩), .pointer (some ⟨g4, 0, none⟩)]] W fun e w' => e = .returned (.bool v) ∧ R w' := by
 have HC := Aside0.mk hc
 clear hc
 go_enter Try.func38, Try.ntmps38
 go_wp2_with (first | (go_at_call 39; (with_reducible refine HC.out.mono ?_); rintro e w1 ⟨rfl, hR⟩; have HR := Aside0.mk hR; clear hR))
 go_ret
 exact ⟨rfl, HR.out⟩
set_option maxHeartbeats 8000000 in
set_option maxRecDepth 100000 in
theorem wl_ofu_nil (f : Value) (W : World) : Calls Try.prog 43 #[.pointer none, f] W fun e w' => e = .returned (.int .u64 0) ∧ w' = W := by
 go_enter Try.func43, Try.ntmps43
 go_wp2
 go_ret
 exact ⟨rfl, rfl⟩
set_option maxHeartbeats 8000000 in
set_option maxRecDepth 100000 in
theorem wl_ofi_nil (f : Value) (W : World) : Calls Try.prog 47 #[.pointer none, f] W fun e w' => e = .returned (.int .i64 0) ∧ w' = W := by
 go_enter Try.func47, Try.ntmps47
 go_wp2
 go_ret
 exact ⟨rfl, rfl⟩
set_option maxHeartbeats 8000000 in
set_option maxRecDepth 100000 in
theorem wl_ofb_nil (f : Value) (W : World) : Calls Try.prog 38 #[.pointer none, f] W fun e w' => e = .returned (.bool false) ∧ w' = W := by
 go_enter Try.func38, Try.ntmps38
 go_wp2
 go_ret
 exact ⟨rfl, rfl⟩
set_option maxHeartbeats 8000000 in
set_option maxRecDepth 100000 in
theorem wl_Word (pw gc gw : Nat) (bk : Value) (c : S23) (ws : List Int) (st : Int) (n x : Int) (W : World) (h : WAt W pw gc gw bk c ws st) (hx : ∀ W : World, Calls Try.prog 41 #[.agg #[.int .i64 c.f0, .int .i64 c.f1, .int .i64 c.f2, .int .i64 c.f3, .int .i64 c.f4], .int .i64 n] W (fun e w' => e = .returned (.int .i64 x) ∧ Below W.heap.size W w')) :
  Calls Try.prog 19 #[.pointer (some ⟨pw, 0, none⟩), .int .i64 n] W fun e w' => e = .returned (.int .u64 (cRd ws x)) ∧ WAt w' pw gc gw bk c ws (cSt ws st x) ∧ Touch (fun k => k = gc ∨ k = gw) W w' := by
 have hmf : ∀ (fn : Fn) (first cap : Array Value) (w : World), (Instr.makeFunc fn first cap).run Try.prog w = .ok (.func fn first cap) w := fun _ _ _ _ => rfl
 have HA := Aside0.mk h
 have HT := Aside0.mk (Touch.refl (fun k => k = gc ∨ k = gw) W)
 clear h
 go_enter Try.func19, Try.ntmps19
 go_wp2_with (first | ((with_reducible refine gate_dst (N := 2) rfl ?_); refine box_event ?hg (N := 2) ?hd (cs := #[.pointer (some ⟨pw, 0, none⟩)]) (t := 30) ?hr ?_; (case hd => rfl); (case hg => rfl); (case hr => first | (go_simp; done) | (go_simp; rfl)); intro g1 hg w1 hbox hbk; have B1 := Aside0.mk hbox; have h0_ := HA; have n_HA := Aside0.mk (HA.out.below hbk); have n_HT := Aside0.mk (HT.out.trans (.of_below hbk)); clear HA HT; have HA := n_HA; have HT := n_HT; clear n_HA n_HT; have c1_0 : w1.cell? ⟨g1, 0, none⟩ = some (.pointer (some ⟨pw, 0, none⟩)) := (blk_cell B1.out 0).trans rfl; have N1 := Aside0.mk (show g1 ≠ gc ∧ g1 ≠ gw from by rw [hg]; have := h0_.out.lt; omega); clear hbk hbox hg h0_) | ((with_reducible refine gate_dst (N := 3) rfl ?_); refine box_event ?hg (N := 3) ?hd (cs := #[.int .i64 n]) (t := 3) ?hr ?_; (case hd => rfl); (case hg => rfl); (case hr => first | (go_simp; done) | (go_simp; rfl)); intro g2 hg w2 hbox hbk; have B2 := Aside0.mk hbox; have h0_ := HA; have n_HA := Aside0.mk (HA.out.below hbk); have n_HT := Aside0.mk (HT.out.trans (.of_below hbk)); have n_B1 := Aside0.mk (blk_below B1.out hbk); clear HA HT B1; have HA := n_HA; have HT := n_HT; have B1 := n_B1; clear n_HA n_HT n_B1; have c2_0 : w2.cell? ⟨g2, 0, none⟩ = some (.int .i64 n) := (blk_cell B2.out 0).trans rfl; have N2 := Aside0.mk (show g2 ≠ gc ∧ g2 ≠ gw from by rw [hg]; have := h0_.out.lt; omega); clear c1_0; have c1_0 : w2.cell? ⟨g1, 0, none⟩ = some (.pointer (some ⟨pw, 0, none⟩)) := (blk_cell B1.out 0).trans rfl; clear hbk hbox hg h0_) | (go_at_call 43; (with_reducible refine (wl_of_Word1 pw g1 g2 _ _ _ (wl_Word1 pw gc gw bk c ws st g1 g2 n x _ HA.out B1.out B2.out ⟨N1.out, N2.out⟩ hx)).mono ?_); rintro e w9 ⟨rfl, hA, hT⟩; have HA2 := Aside0.mk hA; have HT2 := Aside0.mk (HT.out.trans hT); clear hA hT))
 go_ret
 exact ⟨by first | rfl | (simp; done), HA2.out, HT2.out⟩
set_option maxHeartbeats 8000000 in
set_option maxRecDepth 100000 in
theorem wl_Ann (pw gc gw : Nat) (bk : Value) (c : S23) (ws : List Int) (st : Int) (n x : Int) (W : World) (h : WAt W pw gc gw bk c ws st) (hx : ∀ W : World, Calls Try.prog 42 #[.agg #[.int .i64 c.f0, .int .i64 c.f1, .int .i64 c.f2, .int .i64 c.f3, .int .i64 c.f4], .int .i64 n] W (fun e w' => e = .returned (.int .i64 x) ∧ Below W.heap.size W w')) :
  Calls Try.prog 20 #[.pointer (some ⟨pw, 0, none⟩), .int .i64 n] W fun e w' => e = .returned (.int .i64 (wrap64 (wrap64 (cRd ws x) + -1))) ∧ WAt w' pw gc gw bk c ws (cSt ws st x) ∧ Touch (fun k => k = gc ∨ k = gw) W w' := by
 have hmf : ∀ (fn : Fn) (first cap : Array Value) (w : World), (Instr.makeFunc fn first cap).run Try.prog w = .ok (.func fn first cap) w := fun _ _ _ _ => rfl
 have HA := Aside0.mk h
 have HT := Aside0.mk (Touch.refl (fun k => k = gc ∨ k = gw) W)
 clear h
 go_enter Try.func20, Try.ntmps20
 go_wp2_with (first | ((with_reducible refine gate_dst (N := 2) rfl ?_); refine box_event ?hg (N := 2) ?hd (cs := #[.pointer (some ⟨pw, 0, none⟩)]) (t := 30) ?hr ?_; (case hd => rfl); (case hg => rfl); (case hr => first | (go_simp; done) | (go_simp; rfl)); intro g1 hg w1 hbox hbk; have B1 := Aside0.mk hbox; have h0_ := HA; have n_HA := Aside0.mk (HA.out.below hbk); have n_HT := Aside0.mk (HT.out.trans (.of_below hbk)); clear HA HT; have HA := n_HA; have HT := n_HT; clear n_HA n_HT; have c1_0 : w1.cell? ⟨g1, 0, none⟩ = some (.pointer (some ⟨pw, 0, none⟩)) := (blk_cell B1.out 0).trans rfl; have N1 := Aside0.mk (show g1 ≠ gc ∧ g1 ≠ gw from by rw [hg]; have := h0_.out.lt; omega); clear hbk hbox hg h0_) | ((with_reducible refine gate_dst (N := 3) rfl ?_); refine box_event ?hg (N := 3) ?hd (cs := #[.int .i64 n]) (t := 3) ?hr ?_; (case hd => rfl); (case hg => rfl); (case hr => first | (go_simp; done) | (go_simp; rfl)); intro g2 hg w2 hbox hbk; have B2 := Aside0.mk hbox; have h0_ := HA; have n_HA := Aside0.mk (HA.out.below hbk); have n_HT := Aside0.mk (HT.out.trans (.of_below hbk)); have n_B1 := Aside0.mk (blk_below B1.out hbk); clear HA HT B1; have HA := n_HA; have HT := n_HT; have B1 := n_B1; clear n_HA n_HT n_B1; have c2_0 : w2.cell? ⟨g2, 0, none⟩ = some (.int .i64 n) := (blk_cell B2.out 0).trans rfl; have N2 := Aside0.mk (show g2 ≠ gc ∧ g2 ≠ gw from by rw [hg]; have := h0_.out.lt; omega); clear c1_0; have c1_0 : w2.cell? ⟨g1, 0, none⟩ = some (.pointer (some ⟨pw, 0, none⟩)) := (blk_cell B1.out 0).trans rfl; clear hbk hbox hg h0_) | (go_at_call 47; (with_reducible refine (wl_of_Ann1 pw g1 g2 _ _ _ (wl_Ann1 pw gc gw bk c ws st g1 g2 n x _ HA.out B1.out B2.out ⟨N1.out, N2.out⟩ hx)).mono ?_); rintro e w9 ⟨rfl, hA, hT⟩; have HA2 := Aside0.mk hA; have HT2 := Aside0.mk (HT.out.trans hT); clear hA hT))
 go_ret
 exact ⟨by first | rfl | (simp; done), HA2.out, HT2.out⟩
set_option maxHeartbeats 8000000 in
set_option maxRecDepth 100000 in
theorem wl_Link (pw gc gw : Nat) (bk : Value) (c : S23) (ws : List Int) (st : Int) (n x : Int) (old : Int) (y : Int) (W : World) (h : WAt W pw gc gw bk c ws st) (hx : ∀ W : World, Calls Try.prog 37 #[.agg #[.int .i64 c.f0, .int .i64 c.f1, .int .i64 c.f2, .int .i64 c.f3, .int .i64 c.f4], .int .i64 n] W (fun e w' => e = .returned (.int .i64 x) ∧ Below W.heap.size W w')) :
  Calls Try.prog 24 #[.pointer (some ⟨pw, 0, none⟩), .int .i64 n, .int .u64 old, .int .u64 y] W fun e w' => e = .returned (.bool (cSwB ws x old)) ∧ WAt w' pw gc gw bk c (cSwW ws x old y) (cSt ws st x) ∧ Touch (fun k => k = gc ∨ k = gw) W w' := by
 have hmf : ∀ (fn : Fn) (first cap : Array Value) (w : World), (Instr.makeFunc fn first cap).run Try.prog w = .ok (.func fn first cap) w := fun _ _ _ _ => rfl
 have HA := Aside0.mk h
 have HT := Aside0.mk (Touch.refl (fun k => k = gc ∨ k = gw) W)
 clear h
 go_enter Try.func24, Try.ntmps24
 go_wp2_with (first | ((with_reducible refine gate_dst (N := 4) rfl ?_); refine box_event ?hg (N := 4) ?hd (cs := #[.pointer (some ⟨pw, 0, none⟩)]) (t := 30) ?hr ?_; (case hd => rfl); (case hg => rfl); (case hr => first | (go_simp; done) | (go_simp; rfl)); intro g1 hg w1 hbox hbk; have B1 := Aside0.mk hbox; have h0_ := HA; have n_HA := Aside0.mk (HA.out.below hbk); have n_HT := Aside0.mk (HT.out.trans (.of_below hbk)); clear HA HT; have HA := n_HA; have HT := n_HT; clear n_HA n_HT; have c1_0 : w1.cell? ⟨g1, 0, none⟩ = some (.pointer (some ⟨pw, 0, none⟩)) := (blk_cell B1.out 0).trans rfl; have N1 := Aside0.mk (show g1 ≠ gc ∧ g1 ≠ gw from by rw [hg]; have := h0_.out.lt; omega); clear hbk hbox hg h0_) | ((with_reducible refine gate_dst (N := 5) rfl ?_); refine box_event ?hg (N := 5) ?hd (cs := #[.int .i64 n]) (t := 3) ?hr ?_; (case hd => rfl); (case hg => rfl); (case hr => first | (go_simp; done) | (go_simp; rfl)); intro g2 hg w2 hbox hbk; have B2 := Aside0.mk hbox; have h0_ := HA; have n_HA := Aside0.mk (HA.out.below hbk); have n_HT := Aside0.mk (HT.out.trans (.of_below hbk)); have n_B1 := Aside0.mk (blk_below B1.out hbk); clear HA HT B1; have HA := n_HA; have HT := n_HT; have B1 := n_B1; clear n_HA n_HT n_B1; have c2_0 : w2.cell? ⟨g2, 0, none⟩ = some (.int .i64 n) := (blk_cell B2.out 0).trans rfl; have N2 := Aside0.mk (show g2 ≠ gc ∧ g2 ≠ gw from by rw [hg]; have := h0_.out.lt; omega); clear c1_0; have c1_0 : w2.cell? ⟨g1, 0, none⟩ = some (.pointer (some ⟨pw, 0, none⟩)) := (blk_cell B1.out 0).trans rfl; clear hbk hbox hg h0_) | ((with_reducible refine gate_dst (N := 6) rfl ?_); refine box_event ?hg (N := 6) ?hd (cs := #[.int .u64 old]) (t := 25) ?hr ?_; (case hd => rfl); (case hg => rfl); (case hr => first | (go_simp; done) | (go_simp; rfl)); intro g3 hg w3 hbox hbk; have B3 := Aside0.mk hbox; have h0_ := HA; have n_HA := Aside0.mk (HA.out.below hbk); have n_HT := Aside0.mk (HT.out.trans (.of_below hbk)); have n_B1 := Aside0.mk (blk_below B1.out hbk); have n_B2 := Aside0.mk (blk_below B2.out hbk); clear HA HT B1 B2; have HA := n_HA; have HT := n_HT; have B1 := n_B1; have B2 := n_B2; clear n_HA n_HT n_B1 n_B2; have c3_0 : w3.cell? ⟨g3, 0, none⟩ = some (.int .u64 old) := (blk_cell B3.out 0).trans rfl; have N3 := Aside0.mk (show g3 ≠ gc ∧ g3 ≠ gw from by rw [hg]; have := h0_.out.lt; omega); clear c1_0; clear c2_0; have c1_0 : w3.cell? ⟨g1, 0, none⟩ = some (.pointer (some ⟨pw, 0, none⟩)) := (blk_cell B1.out 0).trans rfl; have c2_0 : w3.cell? ⟨g2, 0, none⟩ = some (.int .i64 n) := (blk_cell B2.out 0).trans rfl; clear hbk hbox hg h0_) | ((with_reducible refine gate_dst (N := 7) rfl ?_); refine box_event ?hg (N := 7) ?hd (cs := #[.int .u64 y]) (t := 25) ?hr ?_; (case hd => rfl); (case hg => rfl); (case hr => first | (go_simp; done) | (go_simp; rfl)); intro g4 hg w4 hbox hbk; have B4 := Aside0.mk hbox; have h0_ := HA; have n_HA := Aside0.mk (HA.out.below hbk); have n_HT := Aside0.mk (HT.out.trans (.of_below hbk)); have n_B1 := Aside0.mk (blk_below B1.out hbk); have n_B2 := Aside0.mk (blk_below B2.out hbk); have n_B3 := Aside0.mk (blk_below B3.out hbk); clear HA HT B1 B2 B3; have HA := n_HA; have HT := n_HT; have B1 := n_B1; have B2 := n_B2; have B3 := n_B3; clear n_HA n_HT n_B1 n_B2 n_B3; have c4_0 : w4.cell? ⟨g4, 0, none⟩ = some (.int .u64 y) := (blk_cell B4.out 0).trans rfl; have N4 := Aside0.mk (show g4 ≠ gc ∧ g4 ≠ gw from by rw [hg]; have := h0_.out.lt; omega); clear c1_0; clear c2_0; clear c3_0; have c1_0 : w4.cell? ⟨g1, 0, none⟩ = some (.pointer (some ⟨pw, 0, none⟩)) := (blk_cell B1.out 0).trans rfl; have c2_0 : w4.cell? ⟨g2, 0, none⟩ = some (.int .i64 n) := (blk_cell B2.out 0).trans rfl; have c3_0 : w4.cell? ⟨g3, 0, none⟩ = some (.int .u64 old) := (blk_cell B3.out 0).trans rfl; clear hbk hbox hg h0_) | (go_at_call 38; (with_reducible refine (wl_of_Link1 pw g1 g2 g3 g4 _ _ _ (wl_Link1 pw gc gw bk c ws st g1 g2 g3 g4 n x old y _ HA.out B1.out B2.out B3.out B4.out ⟨N1.out, N2.out, N3.out, N4.out⟩ hx)).mono ?_); rintro e w9 ⟨rfl, hA, hT⟩; have HA2 := Aside0.mk hA; have HT2 := Aside0.mk (HT.out.trans hT); clear hA hT))
 go_ret
 exact ⟨by first | rfl | (simp; done), HA2.out, HT2.out⟩
set_option maxHeartbeats 8000000 in
set_option maxRecDepth 100000 in
theorem wl_Turn (pw gc gw : Nat) (bk : Value) (c : S23) (ws : List Int) (st : Int) (n x : Int) (old : Int) (y : Int) (W : World) (h : WAt W pw gc gw bk c ws st) (hx : ∀ W : World, Calls Try.prog 41 #[.agg #[.int .i64 c.f0, .int .i64 c.f1, .int .i64 c.f2, .int .i64 c.f3, .int .i64 c.f4], .int .i64 n] W (fun e w' => e = .returned (.int .i64 x) ∧ Below W.heap.size W w')) :
  Calls Try.prog 16 #[.pointer (some ⟨pw, 0, none⟩), .int .i64 n, .int .u64 old, .int .u64 y] W fun e w' => e = .returned (.bool (cSwB ws x old)) ∧ WAt w' pw gc gw bk c (cSwW ws x old y) (cSt ws st x) ∧ Touch (fun k => k = gc ∨ k = gw) W w' := by
 have hmf : ∀ (fn : Fn) (first cap : Array Value) (w : World), (Instr.makeFunc fn first cap).run Try.prog w = .ok (.func fn first cap) w := fun _ _ _ _ => rfl
 have HA := Aside0.mk h
 have HT := Aside0.mk (Touch.refl (fun k => k = gc ∨ k = gw) W)
 clear h
 go_enter Try.func16, Try.ntmps16
 go_wp2_with (first | ((with_reducible refine gate_dst (N := 4) rfl ?_); refine box_event ?hg (N := 4) ?hd (cs := #[.pointer (some ⟨pw, 0, none⟩)]) (t := 30) ?hr ?_; (case hd => rfl); (case hg => rfl); (case hr => first | (go_simp; done) | (go_simp; rfl)); intro g1 hg w1 hbox hbk; have B1 := Aside0.mk hbox; have h0_ := HA; have n_HA := Aside0.mk (HA.out.below hbk); have n_HT := Aside0.mk (HT.out.trans (.of_below hbk)); clear HA HT; have HA := n_HA; have HT := n_HT; clear n_HA n_HT; have c1_0 : w1.cell? ⟨g1, 0, none⟩ = some (.pointer (some ⟨pw, 0, none⟩)) := (blk_cell B1.out 0).trans rfl; have N1 := Aside0.mk (show g1 ≠ gc ∧ g1 ≠ gw from by rw [hg]; have := h0_.out.lt; omega); clear hbk hbox hg h0_) | ((with_reducible refine gate_dst (N := 5) rfl ?_); refine box_event ?hg (N := 5) ?hd (cs := #[.int .i64 n]) (t := 3) ?hr ?_; (case hd => rfl); (case hg => rfl); (case hr => first | (go_simp; done) | (go_simp; rfl)); intro g2 hg w2 hbox hbk; have B2 := Aside0.mk hbox; have h0_ := HA; have n_HA := Aside0.mk (HA.out.below hbk); have n_HT := Aside0.mk (HT.out.trans (.of_below hbk)); have n_B1 := Aside0.mk (blk_below B1.out hbk); clear HA HT B1; have HA := n_HA; have HT := n_HT; have B1 := n_B1; clear n_HA n_HT n_B1; have c2_0 : w2.cell? ⟨g2, 0, none⟩ = some (.int .i64 n) := (blk_cell B2.out 0).trans rfl; have N2 := Aside0.mk (show g2 ≠ gc ∧ g2 ≠ gw from by rw [hg]; have := h0_.out.lt; omega); clear c1_0; have c1_0 : w2.cell? ⟨g1, 0, none⟩ = some (.pointer (some ⟨pw, 0, none⟩)) := (blk_cell B1.out 0).trans rfl; clear hbk hbox hg h0_) | ((with_reducible refine gate_dst (N := 6) rfl ?_); refine box_event ?hg (N := 6) ?hd (cs := #[.int .u64 old]) (t := 25) ?hr ?_; (case hd => rfl); (case hg => rfl); (case hr => first | (go_simp; done) | (go_simp; rfl)); intro g3 hg w3 hbox hbk; have B3 := Aside0.mk hbox; have h0_ := HA; have n_HA := Aside0.mk (HA.out.below hbk); have n_HT := Aside0.mk (HT.out.trans (.of_below hbk)); have n_B1 := Aside0.mk (blk_below B1.out hbk); have n_B2 := Aside0.mk (blk_below B2.out hbk); clear HA HT B1 B2; have HA := n_HA; have HT := n_HT; have B1 := n_B1; have B2 := n_B2; clear n_HA n_HT n_B1 n_B2; have c3_0 : w3.cell? ⟨g3, 0, none⟩ = some (.int .u64 old) := (blk_cell B3.out 0).trans rfl; have N3 := Aside0.mk (show g3 ≠ gc ∧ g3 ≠ gw from by rw [hg]; have := h0_.out.lt; omega); clear c1_0; clear c2_0; have c1_0 : w3.cell? ⟨g1, 0, none⟩ = some (.pointer (some ⟨pw, 0, none⟩)) := (blk_cell B1.out 0).trans rfl; have c2_0 : w3.cell? ⟨g2, 0, none⟩ = some (.int .i64 n) := (blk_cell B2.out 0).trans rfl; clear hbk hbox hg h0_) | ((with_reducible refine gate_dst (N := 7) rfl ?_); refine box_event ?hg (N := 7) ?hd (cs := #[.int .u64 y]) (t := 25) ?hr ?_; (case hd => rfl); (case hg => rfl); (case hr => first | (go_simp; done) | (go_simp; rfl)); intro g4 hg w4 hbox hbk; have B4 := Aside0.mk hbox; have h0_ := HA; have n_HA := Aside0.mk (HA.out.below hbk); have n_HT := Aside0.mk (HT.out.trans (.of_below hbk)); have n_B1 := Aside0.mk (blk_below B1.out hbk); have n_B2 := Aside0.mk (blk_below B2.out hbk); have n_B3 := Aside0.mk (blk_below B3.out hbk); clear HA HT B1 B2 B3; have HA := n_HA; have HT := n_HT; have B1 := n_B1; have B2 := n_B2; have B3 := n_B3; clear n_HA n_HT n_B1 n_B2 n_B3; have c4_0 : w4.cell? ⟨g4, 0, none⟩ = some (.int .u64 y) := (blk_cell B4.out 0).trans rfl; have N4 := Aside0.mk (show g4 ≠ gc ∧ g4 ≠ gw from by rw [hg]; have := h0_.out.lt; omega); clear c1_0; clear c2_0; clear c3_0; have c1_0 : w4.cell? ⟨g1, 0, none⟩ = some (.pointer (some ⟨pw, 0, none⟩)) := (blk_cell B1.out 0).trans rfl; have c2_0 : w4.cell? ⟨g2, 0, none⟩ = some (.int .i64 n) := (blk_cell B2.out 0).trans rfl; have c3_0 : w4.cell? ⟨g3, 0, none⟩ = some (.int .u64 old) := (blk_cell B3.out 0).trans rfl; clear hbk hbox hg h0_) | (go_at_call 38; (with_reducible refine (wl_of_Turn1 pw g1 g2 g3 g4 _ _ _ (wl_Turn1 pw gc gw bk c ws st g1 g2 g3 g4 n x old y _ HA.out B1.out B2.out B3.out B4.out ⟨N1.out, N2.out, N3.out, N4.out⟩ hx)).mono ?_); rintro e w9 ⟨rfl, hA, hT⟩; have HA2 := Aside0.mk hA; have HT2 := Aside0.mk (HT.out.trans hT); clear hA hT))
 go_ret
 exact ⟨by first | rfl | (simp; done), HA2.out, HT2.out⟩
set_option maxHeartbeats 8000000 in
set_option maxRecDepth 100000 in
theorem wl_Word_nil (n : Int) (W : World) : Calls Try.prog 19 #[.pointer none, .int .i64 n] W fun e w' => e = .returned (.int .u64 0) ∧ Below W.heap.size W w' := by
 have hmf : ∀ (fn : Fn) (first cap : Array Value) (w : World), (Instr.makeFunc fn first cap).run Try.prog w = .ok (.func fn first cap) w := fun _ _ _ _ => rfl
 have HB := Aside0.mk (Below.refl W.heap.size W)
 go_enter Try.func19, Try.ntmps19
 go_wp2_with (first | ((with_reducible refine gate_dst (N := 2) rfl ?_); refine box_event ?hg (N := 2) ?hd (cs := #[.pointer none]) (t := 30) ?hr ?_; (case hd => rfl); (case hg => rfl); (case hr => first | (go_simp; done) | (go_simp; rfl)); intro g1 hg w1 hbox hbk; have B1 := Aside0.mk hbox; have n_HB := Aside0.mk (below_step HB.out hbk); clear HB; have HB := n_HB; clear n_HB; have c1_0 : w1.cell? ⟨g1, 0, none⟩ = some (.pointer none) := (blk_cell B1.out 0).trans rfl; clear hbk hbox hg) | ((with_reducible refine gate_dst (N := 3) rfl ?_); refine box_event ?hg (N := 3) ?hd (cs := #[.int .i64 n]) (t := 3) ?hr ?_; (case hd => rfl); (case hg => rfl); (case hr => first | (go_simp; done) | (go_simp; rfl)); intro g2 hg w2 hbox hbk; have B2 := Aside0.mk hbox; have n_HB := Aside0.mk (below_step HB.out hbk); have n_B1 := Aside0.mk (blk_below B1.out hbk); clear HB B1; have HB := n_HB; have B1 := n_B1; clear n_HB n_B1; have c2_0 : w2.cell? ⟨g2, 0, none⟩ = some (.int .i64 n) := (blk_cell B2.out 0).trans rfl; clear c1_0; have c1_0 : w2.cell? ⟨g1, 0, none⟩ = some (.pointer none) := (blk_cell B1.out 0).trans rfl; clear hbk hbox hg) | (go_at_call 43; (with_reducible refine (wl_ofu_nil _ _).mono ?_); rintro e w9 ⟨rfl, hq⟩; have hq2 := hq.symm; subst hq2; clear hq))
 go_ret
 exact ⟨by first | rfl | (simp; done), HB.out⟩
set_option maxHeartbeats 8000000 in
set_option maxRecDepth 100000 in
theorem wl_Next_nil (n : Int) (W : World) : Calls Try.prog 18 #[.pointer none, .int .i64 n] W fun e w' => e = .returned (.int .u64 0) ∧ Below W.heap.size W w' := by
 have hmf : ∀ (fn : Fn) (first cap : Array Value) (w : World), (Instr.makeFunc fn first cap).run Try.prog w = .ok (.func fn first cap) w := fun _ _ _ _ => rfl
 have HB := Aside0.mk (Below.refl W.heap.size W)
 go_enter Try.func18, Try.ntmps18
 go_wp2_with (first | ((with_reducible refine gate_dst (N := 2) rfl ?_); refine box_event ?hg (N := 2) ?hd (cs := #[.pointer none]) (t := 30) ?hr ?_; (case hd => rfl); (case hg => rfl); (case hr => first | (go_simp; done) | (go_simp; rfl)); intro g1 hg w1 hbox hbk; have B1 := Aside0.mk hbox; have n_HB := Aside0.mk (below_step HB.out hbk); clear HB; have HB := n_HB; clear n_HB; have c1_0 : w1.cell? ⟨g1, 0, none⟩ = some (.pointer none) := (blk_cell B1.out 0).trans rfl; clear hbk hbox hg) | ((with_reducible refine gate_dst (N := 3) rfl ?_); refine box_event ?hg (N := 3) ?hd (cs := #[.int .i64 n]) (t := 3) ?hr ?_; (case hd => rfl); (case hg => rfl); (case hr => first | (go_simp; done) | (go_simp; rfl)); intro g2 hg w2 hbox hbk; have B2 := Aside0.mk hbox; have n_HB := Aside0.mk (below_step HB.out hbk); have n_B1 := Aside0.mk (blk_below B1.out hbk); clear HB B1; have HB := n_HB; have B1 := n_B1; clear n_HB n_B1; have c2_0 : w2.cell? ⟨g2, 0, none⟩ = some (.int .i64 n) := (blk_cell B2.out 0).trans rfl; clear c1_0; have c1_0 : w2.cell? ⟨g1, 0, none⟩ = some (.pointer none) := (blk_cell B1.out 0).trans rfl; clear hbk hbox hg) | (go_at_call 43; (with_reducible refine (wl_ofu_nil _ _).mono ?_); rintro e w9 ⟨rfl, hq⟩; have hq2 := hq.symm; subst hq2; clear hq))
 go_ret
 exact ⟨by first | rfl | (simp; done), HB.out⟩
set_option maxHeartbeats 8000000 in
set_option maxRecDepth 100000 in
theorem wl_Ann_nil (n : Int) (W : World) : Calls Try.prog 20 #[.pointer none, .int .i64 n] W fun e w' => e = .returned (.int .i64 (-1)) ∧ Below W.heap.size W w' := by
 have hmf : ∀ (fn : Fn) (first cap : Array Value) (w : World), (Instr.makeFunc fn first cap).run Try.prog w = .ok (.func fn first cap) w := fun _ _ _ _ => rfl
 have HB := Aside0.mk (Below.refl W.heap.size W)
 go_enter Try.func20, Try.ntmps20
 go_wp2_with (first | ((with_reducible refine gate_dst (N := 2) rfl ?_); refine box_event ?hg (N := 2) ?hd (cs := #[.pointer none]) (t := 30) ?hr ?_; (case hd => rfl); (case hg => rfl); (case hr => first | (go_simp; done) | (go_simp; rfl)); intro g1 hg w1 hbox hbk; have B1 := Aside0.mk hbox; have n_HB := Aside0.mk (below_step HB.out hbk); clear HB; have HB := n_HB; clear n_HB; have c1_0 : w1.cell? ⟨g1, 0, none⟩ = some (.pointer none) := (blk_cell B1.out 0).trans rfl; clear hbk hbox hg) | ((with_reducible refine gate_dst (N := 3) rfl ?_); refine box_event ?hg (N := 3) ?hd (cs := #[.int .i64 n]) (t := 3) ?hr ?_; (case hd => rfl); (case hg => rfl); (case hr => first | (go_simp; done) | (go_simp; rfl)); intro g2 hg w2 hbox hbk; have B2 := Aside0.mk hbox; have n_HB := Aside0.mk (below_step HB.out hbk); have n_B1 := Aside0.mk (blk_below B1.out hbk); clear HB B1; have HB := n_HB; have B1 := n_B1; clear n_HB n_B1; have c2_0 : w2.cell? ⟨g2, 0, none⟩ = some (.int .i64 n) := (blk_cell B2.out 0).trans rfl; clear c1_0; have c1_0 : w2.cell? ⟨g1, 0, none⟩ = some (.pointer none) := (blk_cell B1.out 0).trans rfl; clear hbk hbox hg) | (go_at_call 47; (with_reducible refine (wl_ofi_nil _ _).mono ?_); rintro e w9 ⟨rfl, hq⟩; have hq2 := hq.symm; subst hq2; clear hq))
 go_ret
 exact ⟨by first | rfl | (simp; done), HB.out⟩
set_option maxHeartbeats 8000000 in
set_option maxRecDepth 100000 in
theorem wl_Link_nil (n old y : Int) (W : World) : Calls Try.prog 24 #[.pointer none, .int .i64 n, .int .u64 old, .int .u64 y] W fun e w' => e = .returned (.bool false) ∧ Below W.heap.size W w' := by
 have hmf : ∀ (fn : Fn) (first cap : Array Value) (w : World), (Instr.makeFunc fn first cap).run Try.prog w = .ok (.func fn first cap) w := fun _ _ _ _ => rfl
 have HB := Aside0.mk (Below.refl W.heap.size W)
 go_enter Try.func24, Try.ntmps24
 go_wp2_with (first | ((with_reducible refine gate_dst (N := 4) rfl ?_); refine box_event ?hg (N := 4) ?hd (cs := #[.pointer none]) (t := 30) ?hr ?_; (case hd => rfl); (case hg => rfl); (case hr => first | (go_simp; done) | (go_simp; rfl)); intro g1 hg w1 hbox hbk; have B1 := Aside0.mk hbox; have n_HB := Aside0.mk (below_step HB.out hbk); clear HB; have HB := n_HB; clear n_HB; have c1_0 : w1.cell? ⟨g1, 0, none⟩ = some (.pointer none) := (blk_cell B1.out 0).trans rfl; clear hbk hbox hg) | ((with_reducible refine gate_dst (N := 5) rfl ?_); refine box_event ?hg (N := 5) ?hd (cs := #[.int .i64 n]) (t := 3) ?hr ?_; (case hd => rfl); (case hg => rfl); (case hr => first | (go_simp; done) | (go_simp; rfl)); intro g2 hg w2 hbox hbk; have B2 := Aside0.mk hbox; have n_HB := Aside0.mk (below_step HB.out hbk); have n_B1 := Aside0.mk (blk_below B1.out hbk); clear HB B1; have HB := n_HB; have B1 := n_B1; clear n_HB n_B1; have c2_0 : w2.cell? ⟨g2, 0, none⟩ = some (.int .i64 n) := (blk_cell B2.out 0).trans rfl; clear c1_0; have c1_0 : w2.cell? ⟨g1, 0, none⟩ = some (.pointer none) := (blk_cell B1.out 0).trans rfl; clear hbk hbox hg) | ((with_reducible refine gate_dst (N := 6) rfl ?_); refine box_event ?hg (N := 6) ?hd (cs := #[.int .u64 old]) (t := 25) ?hr ?_; (case hd => rfl); (case hg => rfl); (case hr => first | (go_simp; done) | (go_simp; rfl)); intro g3 hg w3 hbox hbk; have B3 := Aside0.mk hbox; have n_HB := Aside0.mk (below_step HB.out hbk); have n_B1 := Aside0.mk (blk_below B1.out hbk); have n_B2 := Aside0.mk (blk_below B2.out hbk); clear HB B1 B2; have HB := n_HB; have B1 := n_B1; have B2 := n_B2; clear n_HB n_B1 n_B2; have c3_0 : w3.cell? ⟨g3, 0, none⟩ = some (.int .u64 old) := (blk_cell B3.out 0).trans rfl; clear c1_0; clear c2_0; have c1_0 : w3.cell? ⟨g1, 0, none⟩ = some (.pointer none) := (blk_cell B1.out 0).trans rfl; have c2_0 : w3.cell? ⟨g2, 0, none⟩ = some (.int .i64 n) := (blk_cell B2.out 0).trans rfl; clear hbk hbox hg) | ((with_reducible refine gate_dst (N := 7) rfl ?_); refine box_event ?hg (N := 7) ?hd (cs := #[.int .u64 y]) (t := 25) ?hr ?_; (case hd => rfl); (case hg => rfl); (case hr => first | (go_simp; done) | (go_simp; rfl)); intro g4 hg w4 hbox hbk; have B4 := Aside0.mk hbox; have n_HB := Aside0.mk (below_step HB.out hbk); have n_B1 := Aside0.mk (blk_below B1.out hbk); have n_B2 := Aside0.mk (blk_below B2.out hbk); have n_B3 := Aside0.mk (blk_below B3.out hbk); clear HB B1 B2 B3; have HB := n_HB; have B1 := n_B1; have B2 := n_B2; have B3 := n_B3; clear n_HB n_B1 n_B2 n_B3; have c4_0 : w4.cell? ⟨g4, 0, none⟩ = some (.int .u64 y) := (blk_cell B4.out 0).trans rfl; clear c1_0; clear c2_0; clear c3_0; have c1_0 : w4.cell? ⟨g1, 0, none⟩ = some (.pointer none) := (blk_cell B1.out 0).trans rfl; have c2_0 : w4.cell? ⟨g2, 0, none⟩ = some (.int .i64 n) := (blk_cell B2.out 0).trans rfl; have c3_0 : w4.cell? ⟨g3, 0, none⟩ = some (.int .u64 old) := (blk_cell B3.out 0).trans rfl; clear hbk hbox hg) | (go_at_call 38; (with_reducible refine (wl_ofb_nil _ _).mono ?_); rintro e w9 ⟨rfl, hq⟩; have hq2 := hq.symm; subst hq2; clear hq))
 go_ret
 exact ⟨by first | rfl | (simp; done), HB.out⟩
set_option maxHeartbeats 8000000 in
set_option maxRecDepth 100000 in
theorem wl_Turn_nil (n old y : Int) (W : World) : Calls Try.prog 16 #[.pointer none, .int .i64 n, .int .u64 old, .int .u64 y] W fun e w' => e = .returned (.bool false) ∧ Below W.heap.size W w' := by
 have hmf : ∀ (fn : Fn) (first cap : Array Value) (w : World), (Instr.makeFunc fn first cap).run Try.prog w = .ok (.func fn first cap) w := fun _ _ _ _ => rfl
 have HB := Aside0.mk (Below.refl W.heap.size W)
 go_enter Try.func16, Try.ntmps16
 go_wp2_with (first | ((with_reducible refine gate_dst (N := 4) rfl ?_); refine box_event ?hg (N := 4) ?hd (cs := #[.pointer none]) (t := 30) ?hr ?_; (case hd => rfl); (case hg => rfl); (case hr => first | (go_simp; done) | (go_simp; rfl)); intro g1 hg w1 hbox hbk; have B1 := Aside0.mk hbox; have n_HB := Aside0.mk (below_step HB.out hbk); clear HB; have HB := n_HB; clear n_HB; have c1_0 : w1.cell? ⟨g1, 0, none⟩ = some (.pointer none) := (blk_cell B1.out 0).trans rfl; clear hbk hbox hg) | ((with_reducible refine gate_dst (N := 5) rfl ?_); refine box_event ?hg (N := 5) ?hd (cs := #[.int .i64 n]) (t := 3) ?hr ?_; (case hd => rfl); (case hg => rfl); (case hr => first | (go_simp; done) | (go_simp; rfl)); intro g2 hg w2 hbox hbk; have B2 := Aside0.mk hbox; have n_HB := Aside0.mk (below_step HB.out hbk); have n_B1 := Aside0.mk (blk_below B1.out hbk); clear HB B1; have HB := n_HB; have B1 := n_B1; clear n_HB n_B1; have c2_0 : w2.cell? ⟨g2, 0, none⟩ = some (.int .i64 n) := (blk_cell B2.out 0).trans rfl; clear c1_0; have c1_0 : w2.cell? ⟨g1, 0, none⟩ = some (.pointer none) := (blk_cell B1.out 0).trans rfl; clear hbk hbox hg) | ((with_reducible refine gate_dst (N := 6) rfl ?_); refine box_event ?hg (N := 6) ?hd (cs := #[.int .u64 old]) (t := 25) ?hr ?_; (case hd => rfl); (case hg => rfl); (case hr => first | (go_simp; done) | (go_simp; rfl)); intro g3 hg w3 hbox hbk; have B3 := Aside0.mk hbox; have n_HB := Aside0.mk (below_step HB.out hbk); have n_B1 := Aside0.mk (blk_below B1.out hbk); have n_B2 := Aside0.mk (blk_below B2.out hbk); clear HB B1 B2; have HB := n_HB; have B1 := n_B1; have B2 := n_B2; clear n_HB n_B1 n_B2; have c3_0 : w3.cell? ⟨g3, 0, none⟩ = some (.int .u64 old) := (blk_cell B3.out 0).trans rfl; clear c1_0; clear c2_0; have c1_0 : w3.cell? ⟨g1, 0, none⟩ = some (.pointer none) := (blk_cell B1.out 0).trans rfl; have c2_0 : w3.cell? ⟨g2, 0, none⟩ = some (.int .i64 n) := (blk_cell B2.out 0).trans rfl; clear hbk hbox hg) | ((with_reducible refine gate_dst (N := 7) rfl ?_); refine box_event ?hg (N := 7) ?hd (cs := #[.int .u64 y]) (t := 25) ?hr ?_; (case hd => rfl); (case hg => rfl); (case hr => first | (go_simp; done) | (go_simp; rfl)); intro g4 hg w4 hbox hbk; have B4 := Aside0.mk hbox; have n_HB := Aside0.mk (below_step HB.out hbk); have n_B1 := Aside0.mk (blk_below B1.out hbk); have n_B2 := Aside0.mk (blk_below B2.out hbk); have n_B3 := Aside0.mk (blk_below B3.out hbk); clear HB B1 B2 B3; have HB := n_HB; have B1 := n_B1; have B2 := n_B2; have B3 := n_B3; clear n_HB n_B1 n_B2 n_B3; have c4_0 : w4.cell? ⟨g4, 0, none⟩ = some (.int .u64 y) := (blk_cell B4.out 0).trans rfl; clear c1_0; clear c2_0; clear c3_0; have c1_0 : w4.cell? ⟨g1, 0, none⟩ = some (.pointer none) := (blk_cell B1.out 0).trans rfl; have c2_0 : w4.cell? ⟨g2, 0, none⟩ = some (.int .i64 n) := (blk_cell B2.out 0).trans rfl; have c3_0 : w4.cell? ⟨g3, 0, none⟩ = some (.int .u64 old) := (blk_cell B3.out 0).trans rfl; clear hbk hbox hg) | (go_at_call 38; (with_reducible refine (wl_ofb_nil _ _).mono ?_); rintro e w9 ⟨rfl, hq⟩; have hq2 := hq.symm; subst hq2; clear hq))
 go_ret
 exact ⟨by first | rfl | (simp; done), HB.out⟩
theorem goesV_ {P : Program} {ops : Array Oper} {Q : Exit → Act → World → Prop} {oi : Oper} {N : Option Tmp} {a : Act} {w : World} {K : Act → World → Prop} {f : FuncId} {t : Tmp} {as_ : Array Operand} {ts : Array TypeId} {fn : Func} (first cap xs : Array Value) (hf : P.funcs[f]? = some fn) (hname : (fn.name == "runtime.NumGoroutine") = false) (hb : fn.body.isSome = true) (args : Array Value)
  (hw : Region.wanted oi (yielded ops a.tmps) = true) (hN : oi.dst = N) (hop : oi.op = .call { callee := .value (.tmp t), args := as_, argTypes := ts }) (hvH : a.eval (.tmp t) = .func (.func f) first cap) (hargs : as_.map a.eval = xs) (he : first ++ xs ++ cap = args)
  (h : Calls P f args w fun e w' => ∃ v, e = .returned v ∧ K (a.put N v) w') : if Region.wanted oi (yielded ops a.tmps) = true then Oper.wp P oi a w K Q else K (a.put N undef) w := by
 refine call_ f args hw hN ?_ h
 have h2 := enters_ hf hname hb args w
 unfold execOp
 simp [hop, resolve, hvH, Deferred.ofValue, invoke, hargs]
 rw [← Array.append_assoc, he]
 simp [h2]
def wl_Next1_lb (n m : Nat) : Array Bool := ((List.range n).map (fun i => m.testBit i)).toArray
def wl_Next1.T2 : Bool × List (List Nat × List Nat) := (true, [([], []), ([], []), ([1], [1]), ([2], [2]), ([3], [3]), ([], []), ([4, 5], [4, 5]), ([0, 6, 6], [0, 6]), ([7, 7, 0, 1, 2, 3, 4, 5, 6, 7], [7])])
def wl_Next1.B2 : List Nat := [0, 0, 2, 6, 14, 0, 62, 127, 255]
theorem wl_Next1.tab2 : rtab .any (opsOf Try.f44 2) = wl_Next1.T2 := by kernel_rfl
theorem wl_Next1.bits2 : waitsOk wl_Next1.T2.2 wl_Next1.B2 = true := by kernel_rfl
set_option maxHeartbeats 8000000 in
set_option maxRecDepth 100000 in
theorem wl_Next1 (pw gc gw : Nat) (bk : Value) (c : S23) (ws : List Int) (st : Int) (g1 g2 : Nat) (n x : Int) (W : World) (h : WAt W pw gc gw bk c ws st) (hB1 : W.heap[g1]? = some (.cells #[.pointer (some ⟨pw, 0, none⟩)] 30 (0, 0))) (hB2 : W.heap[g2]? = some (.cells #[.int .i64 n] 3 (0, 0))) (hne : (g1 ≠ gc ∧ g1 ≠ gw) ∧ (g2 ≠ gc ∧ g2 ≠ gw)) (hx : ∀ W : World, Calls Try.prog 37 #[.agg #[.int .i64 c.f0, .int .i64 c.f1, .int .i64 c.f2, .int .i64 c.f3, .int .i64 c.f4], .int .i64 n] W (fun e w' => e = .returned (.int .i64 x) ∧ Below W.heap.size W w')) :
  Calls Try.prog 44 #[.pointer (some ⟨g1, 0, none⟩), .pointer (some ⟨g2, 0, none⟩)] W fun e w' => e = .returned (.int .u64 (cRd ws x)) ∧ WAt w' pw gc gw bk c ws (cSt ws st x) ∧ Touch (fun k => k = gc ∨ k = gw) W w' := by
 have hmf : ∀ (fn : Fn) (first cap : Array Value) (w : World), (Instr.makeFunc fn first cap).run Try.prog w = .ok (.func fn first cap) w := fun _ _ _ _ => rfl
 have HA := Aside0.mk h
 have B1 := Aside0.mk hB1
 have B2 := Aside0.mk hB2
 have HNE := Aside0.mk hne
 have HT := Aside0.mk (Touch.refl (fun k => k = gc ∨ k = gw) W)
 clear h hne hB1 hB2
 have c1_0 : W.cell? ⟨g1, 0, none⟩ = some (.pointer (some ⟨pw, 0, none⟩)) := (blk_cell B1.out 0).trans rfl
 have cp_5 : W.cell? ⟨pw, 5, none⟩ = some (.pointer (some ⟨gc, 0, none⟩)) := (blk_cell HA.out.w 5).trans rfl
 go_enter Try.func44, Try.ntmps44
 go_upto_region 2 with fail
 clear c1_0 cp_5
 have n_HA := Aside0.mk (HA.out.drew)
 have n_B1 := Aside0.mk (blk_drew B1.out)
 have n_B2 := Aside0.mk (blk_drew B2.out)
 have n_HT := Aside0.mk (HT.out.drew)
 clear HA B1 B2 HT
 have HA := n_HA
 have B1 := n_B1
 have B2 := n_B2
 have HT := n_HT
 clear n_HA n_B1 n_B2 n_HT
 refine start_ (n := 9) (S := fun w' => w'.cell? ⟨g1, 0, none⟩ = some (.pointer (some ⟨pw, 0, none⟩)) ∧ w'.cell? ⟨pw, 0, none⟩ = some (.int .i64 c.f0) ∧ w'.cell? ⟨pw, 1, none⟩ = some (.int .i64 c.f1) ∧ w'.cell? ⟨pw, 2, none⟩ = some (.int .i64 c.f2) ∧ w'.cell? ⟨pw, 3, none⟩ = some (.int .i64 c.f3) ∧ w'.cell? ⟨pw, 4, none⟩ = some (.int .i64 c.f4) ∧ w'.cell? ⟨g2, 0, none⟩ = some (.int .i64 n)) (ds := []) #[false, false, false, false, false, false, false, false, false] (by kernel_rfl) rfl rfl ⟨((blk_cell B1.out 0).trans rfl), ((blk_cell HA.out.w 0).trans rfl), ((blk_cell HA.out.w 1).trans rfl), ((blk_cell HA.out.w 2).trans rfl), ((blk_cell HA.out.w 3).trans rfl), ((blk_cell HA.out.w 4).trans rfl), ((blk_cell B2.out 0).trans rfl)⟩ (fun hHeld => ?_); refine with_tabW wl_Next1.tab2 wl_Next1.bits2 (fun HT_ HW_ => ?_)
 generalize W.drew = W1 at HA B1 B2 HT hHeld ⊢
 refine pure_ (i := 0) (N := some 9) (v := ?_) (a' := ?_) (wl_Next1_lb 9 1) rfl rfl (any_of HT_.out (by kernel_rfl)) (fun _ _ _ h => h) (Or.inl ⟨by rfl, ?_⟩) ?_ ?_; rotate_left
 ·intro w'; go_simp; with_reducible rfl
 rotate_left
 ·simp only [Act.put, List.setIfInBounds_toArray, List.set_cons_zero, List.set_cons_succ, i64_w, i32_w]; rfl
 refine take_ (i := 1) (N := some 10) (v := ?_) (a' := ?_) (wl_Next1_lb 9 3) rfl rfl (take_ofW HT_.out HW_.out (by kernel_rfl)) (fun _ _ _ h => h) (Or.inl ⟨by rfl, ?_⟩) hHeld ?_ ?_; rotate_left
 ·rintro w' ⟨s0, s1, s2, s3, s4, s5, s6⟩; go_simp; with_reducible rfl
 rotate_left
 ·simp only [Act.put, List.setIfInBounds_toArray, List.set_cons_zero, List.set_cons_succ, i64_w, i32_w]; rfl
 refine pure_ (i := 2) (N := some 11) (v := ?_) (a' := ?_) (wl_Next1_lb 9 7) rfl rfl (any_of HT_.out (by kernel_rfl)) (fun _ _ _ h => h) (Or.inl ⟨by rfl, ?_⟩) ?_ ?_; rotate_left
 ·intro w'; go_simp; with_reducible rfl
 rotate_left
 ·simp only [Act.put, List.setIfInBounds_toArray, List.set_cons_zero, List.set_cons_succ, i64_w, i32_w]; rfl
 refine pure_ (i := 3) (N := some 12) (v := ?_) (a' := ?_) (wl_Next1_lb 9 15) rfl rfl (any_of HT_.out (by kernel_rfl)) (fun _ _ _ h => h) (Or.inl ⟨by rfl, ?_⟩) ?_ ?_; rotate_left
 ·intro w'; go_simp; with_reducible rfl
 rotate_left
 ·simp only [Act.put, List.setIfInBounds_toArray, List.set_cons_zero, List.set_cons_succ, i64_w, i32_w]; rfl
 refine take_ (i := 4) (N := some 13) (v := ?_) (a' := ?_) (wl_Next1_lb 9 31) rfl rfl (take_ofW HT_.out HW_.out (by kernel_rfl)) (fun _ _ _ h => h) (Or.inl ⟨by rfl, ?_⟩) hHeld ?_ ?_; rotate_left
 ·rintro w' ⟨s0, s1, s2, s3, s4, s5, s6⟩; go_simp; with_reducible rfl
 rotate_left
 ·simp only [Act.put, List.setIfInBounds_toArray, List.set_cons_zero, List.set_cons_succ, i64_w, i32_w]; rfl
 refine take_ (i := 5) (N := some 14) (v := ?_) (a' := ?_) (wl_Next1_lb 9 63) rfl rfl (take_ofW HT_.out HW_.out (by kernel_rfl)) (fun _ _ _ h => h) (Or.inl ⟨by rfl, ?_⟩) hHeld ?_ ?_; rotate_left
 ·rintro w' ⟨s0, s1, s2, s3, s4, s5, s6⟩; go_simp; with_reducible rfl
 rotate_left
 ·simp only [Act.put, List.setIfInBounds_toArray, List.set_cons_zero, List.set_cons_succ, i64_w, i32_w]; rfl
 refine one_ (i := 6) (N := some 15) (wl_Next1_lb 9 127) rfl rfl (one_of HT_.out (by kernel_rfl)) (by decide) (fun K hK => ?_)
 refine goes_ Try.func37 (by kernel_rfl) rfl #[.agg #[.int .i64 c.f0, .int .i64 c.f1, .int .i64 c.f2, .int .i64 c.f3, .int .i64 c.f4], .int .i64 n] (by rfl) rfl rfl (by (try simp only [List.map_toArray, List.map_cons, List.map_nil]); first | done | rfl) ?_
 with_reducible refine (hx _).mono ?_
 rintro e u1 ⟨rfl, hbk⟩
 refine ⟨_, rfl, ?_⟩
 have n_HA := Aside0.mk (HA.out.below hbk)
 have n_B1 := Aside0.mk (blk_below B1.out hbk)
 have n_B2 := Aside0.mk (blk_below B2.out hbk)
 have n_HT := Aside0.mk (HT.out.trans (.of_below hbk))
 clear HA B1 B2 HT hbk
 have HA := n_HA
 have B1 := n_B1
 have B2 := n_B2
 have HT := n_HT
 clear n_HA n_B1 n_B2 n_HT
 refine hK.out _ _ ⟨((blk_cell B1.out 0).trans rfl), ((blk_cell HA.out.w 0).trans rfl), ((blk_cell HA.out.w 1).trans rfl), ((blk_cell HA.out.w 2).trans rfl), ((blk_cell HA.out.w 3).trans rfl), ((blk_cell HA.out.w 4).trans rfl), ((blk_cell B2.out 0).trans rfl)⟩ (fun hHeld => ?_)
 clear hK K
 refine norm_ (a' := ?_) ?_ ?_
 rotate_left
 ·show Act.put _ (some 15) _ = _
  simp only [Act.put, List.setIfInBounds_toArray, List.set_cons_zero, List.set_cons_succ, i64_w, i32_w]
  rfl
 refine one_ (i := 7) (N := some 16) (wl_Next1_lb 9 255) rfl rfl (one_of HT_.out (by kernel_rfl)) (by decide) (fun K hK => ?_)
 refine goesV_ #[.pointer (some ⟨gc, 0, none⟩)] #[] #[.int .i64 x] Try.func45 (by kernel_rfl) rfl #[.pointer (some ⟨gc, 0, none⟩), .int .i64 x] (by rfl) rfl rfl (by rfl) (by (try simp only [List.map_toArray, List.map_cons, List.map_nil]); first | done | rfl) (by rfl) ?_
 with_reducible refine (cel_Load gc gw ws st x _ HA.out.m).mono ?_
 rintro e u2 ⟨rfl, hA, hT⟩
 refine ⟨_, rfl, ?_⟩
 have hne := HNE.out
 have n_HA := Aside0.mk (HA.out.turn hA hT)
 have n_HT := Aside0.mk (HT.out.trans hT)
 have n_B1 := Aside0.mk (blk_touch B1.out hT (fun e => e.elim hne.1.1 hne.1.2))
 have n_B2 := Aside0.mk (blk_touch B2.out hT (fun e => e.elim hne.2.1 hne.2.2))
 clear HA HT B1 B2 hA hT hne
 have HA := n_HA
 have HT := n_HT
 have B1 := n_B1
 have B2 := n_B2
 clear n_HA n_HT n_B1 n_B2
 refine hK.out _ _ ⟨((blk_cell B1.out 0).trans rfl), ((blk_cell HA.out.w 0).trans rfl), ((blk_cell HA.out.w 1).trans rfl), ((blk_cell HA.out.w 2).trans rfl), ((blk_cell HA.out.w 3).trans rfl), ((blk_cell HA.out.w 4).trans rfl), ((blk_cell B2.out 0).trans rfl)⟩ (fun hHeld => ?_)
 clear hK K
 refine norm_ (a' := ?_) ?_ ?_
 rotate_left
 ·show Act.put _ (some 16) _ = _
  simp only [Act.put, List.setIfInBounds_toArray, List.set_cons_zero, List.set_cons_succ, i64_w, i32_w]
  rfl
 refine pure_ (i := 8) (N := some 2) (v := ?_) (a' := ?_) (wl_Next1_lb 9 511) rfl rfl (any_of HT_.out (by kernel_rfl)) (fun _ _ _ h => h) (Or.inl ⟨by rfl, ?_⟩) ?_ ?_; rotate_left
 ·intro w'; go_simp; with_reducible rfl
 rotate_left
 ·simp only [Act.put, List.setIfInBounds_toArray, List.set_cons_zero, List.set_cons_succ, i64_w, i32_w]; rfl
 refine done_ (done_of HT_.out (by kernel_rfl)) ?_
 go_wp2
 go_ret
 exact ⟨rfl, HA.out, HT.out⟩
set_option maxHeartbeats 8000000 in
set_option maxRecDepth 100000 in
theorem wl_Next (pw gc gw : Nat) (bk : Value) (c : S23) (ws : List Int) (st : Int) (n x : Int) (W : World) (h : WAt W pw gc gw bk c ws st) (hx : ∀ W : World, Calls Try.prog 37 #[.agg #[.int .i64 c.f0, .int .i64 c.f1, .int .i64 c.f2, .int .i64 c.f3, .int .i64 c.f4], .int .i64 n] W (fun e w' => e = .returned (.int .i64 x) ∧ Below W.heap.size W w')) :
  Calls Try.prog 18 #[.pointer (some ⟨pw, 0, none⟩), .int .i64 n] W fun e w' => e = .returned (.int .u64 (cRd ws x)) ∧ WAt w' pw gc gw bk c ws (cSt ws st x) ∧ Touch (fun k => k = gc ∨ k = gw) W w' := by
 have hmf : ∀ (fn : Fn) (first cap : Array Value) (w : World), (Instr.makeFunc fn first cap).run Try.prog w = .ok (.func fn first cap) w := fun _ _ _ _ => rfl
 have HA := Aside0.mk h
 have HT := Aside0.mk (Touch.refl (fun k => k = gc ∨ k = gw) W)
 clear h
 go_enter Try.func18, Try.ntmps18
 go_wp2_with (first | ((with_reducible refine gate_dst (N := 2) rfl ?_); refine box_event ?hg (N := 2) ?hd (cs := #[.pointer (some ⟨pw, 0, none⟩)]) (t := 30) ?hr ?_; (case hd => rfl); (case hg => rfl); (case hr => first | (go_simp; done) | (go_simp; rfl)); intro g1 hg w1 hbox hbk; have B1 := Aside0.mk hbox; have h0_ := HA; have n_HA := Aside0.mk (HA.out.below hbk); have n_HT := Aside0.mk (HT.out.trans (.of_below hbk)); clear HA HT; have HA := n_HA; have HT := n_HT; clear n_HA n_HT; have c1_0 : w1.cell? ⟨g1, 0, none⟩ = some (.pointer (some ⟨pw, 0, none⟩)) := (blk_cell B1.out 0).trans rfl; have N1 := Aside0.mk (show g1 ≠ gc ∧ g1 ≠ gw from by rw [hg]; have := h0_.out.lt; omega); clear hbk hbox hg h0_) | ((with_reducible refine gate_dst (N := 3) rfl ?_); refine box_event ?hg (N := 3) ?hd (cs := #[.int .i64 n]) (t := 3) ?hr ?_; (case hd => rfl); (case hg => rfl); (case hr => first | (go_simp; done) | (go_simp; rfl)); intro g2 hg w2 hbox hbk; have B2 := Aside0.mk hbox; have h0_ := HA; have n_HA := Aside0.mk (HA.out.below hbk); have n_HT := Aside0.mk (HT.out.trans (.of_below hbk)); have n_B1 := Aside0.mk (blk_below B1.out hbk); clear HA HT B1; have HA := n_HA; have HT := n_HT; have B1 := n_B1; clear n_HA n_HT n_B1; have c2_0 : w2.cell? ⟨g2, 0, none⟩ = some (.int .i64 n) := (blk_cell B2.out 0).trans rfl; have N2 := Aside0.mk (show g2 ≠ gc ∧ g2 ≠ gw from by rw [hg]; have := h0_.out.lt; omega); clear c1_0; have c1_0 : w2.cell? ⟨g1, 0, none⟩ = some (.pointer (some ⟨pw, 0, none⟩)) := (blk_cell B1.out 0).trans rfl; clear hbk hbox hg h0_) | (go_at_call 43; (with_reducible refine (wl_of_Next1 pw g1 g2 _ _ _ (wl_Next1 pw gc gw bk c ws st g1 g2 n x _ HA.out B1.out B2.out ⟨N1.out, N2.out⟩ hx)).mono ?_); rintro e w9 ⟨rfl, hA, hT⟩; have HA2 := Aside0.mk hA; have HT2 := Aside0.mk (HT.out.trans hT); clear hA hT))
 go_ret
 exact ⟨by first | rfl | (simp; done), HA2.out, HT2.out⟩
def wl_Set_lb (n m : Nat) : Array Bool := ((List.range n).map (fun i => m.testBit i)).toArray
def wl_Set.T1 : Bool × List (List Nat × List Nat) := (true, [([], []), ([0], [0]), ([1], [1]), ([2], [2]), ([], []), ([4], [4]), ([5], [5]), ([6], [6]), ([], []), ([7, 8], [7, 8]), ([], []), ([3, 9, 10, 9], [3, 9, 10])])
def wl_Set.B1 : List Nat := [0, 1, 3, 7, 0, 16, 48, 112, 0, 496, 0, 2047]
theorem wl_Set.tab1 : rtab .any (opsOf Try.f15 1) = wl_Set.T1 := by kernel_rfl
theorem wl_Set.bits1 : waitsOk wl_Set.T1.2 wl_Set.B1 = true := by kernel_rfl
set_option maxHeartbeats 8000000 in
set_option maxRecDepth 100000 in
theorem wl_Set (pw gc gw : Nat) (bk : Value) (c : S23) (ws : List Int) (st : Int) (n x y : Int) (W : World) (h : WAt W pw gc gw bk c ws st) (hx : ∀ W : World, Calls Try.prog 37 #[.agg #[.int .i64 c.f0, .int .i64 c.f1, .int .i64 c.f2, .int .i64 c.f3, .int .i64 c.f4], .int .i64 n] W (fun e w' => e = .returned (.int .i64 x) ∧ Below W.heap.size W w')) :
  Calls Try.prog 15 #[.pointer (some ⟨pw, 0, none⟩), .int .i64 n, .int .u64 y] W fun e w' => e = .returned (.tuple #[]) ∧ WAt w' pw gc gw bk c (cPutW ws x y) (cSt ws st x) ∧ Touch (fun k => k = gc ∨ k = gw) W w' := by
 have HA := Aside0.mk h
 have HT := Aside0.mk (Touch.refl (fun k => k = gc ∨ k = gw) W)
 clear h
 go_enter Try.func15, Try.ntmps15
 go_upto_region 1 with fail
 have n_HA := Aside0.mk (HA.out.drew)
 have n_HT := Aside0.mk (HT.out.drew)
 clear HA HT
 have HA := n_HA
 have HT := n_HT
 clear n_HA n_HT
 refine start_ (n := 12) (S := fun w' => w'.cell? ⟨pw, 0, none⟩ = some (.int .i64 c.f0) ∧ w'.cell? ⟨pw, 1, none⟩ = some (.int .i64 c.f1) ∧ w'.cell? ⟨pw, 2, none⟩ = some (.int .i64 c.f2) ∧ w'.cell? ⟨pw, 3, none⟩ = some (.int .i64 c.f3) ∧ w'.cell? ⟨pw, 4, none⟩ = some (.int .i64 c.f4) ∧ w'.cell? ⟨pw, 5, none⟩ = some (.pointer (some ⟨gc, 0, none⟩))) (ds := []) #[false, false, false, false, false, false, false, false, false, false, false, false] (by kernel_rfl) rfl rfl ⟨((blk_cell HA.out.w 0).trans rfl), ((blk_cell HA.out.w 1).trans rfl), ((blk_cell HA.out.w 2).trans rfl), ((blk_cell HA.out.w 3).trans rfl), ((blk_cell HA.out.w 4).trans rfl), ((blk_cell HA.out.w 5).trans rfl)⟩ (fun hHeld => ?_); refine with_tabW wl_Set.tab1 wl_Set.bits1 (fun HT_ HW_ => ?_)
 generalize W.drew = W1 at HA HT hHeld ⊢
 refine pure_ (i := 0) (N := some 8) (v := ?_) (a' := ?_) (wl_Set_lb 12 1) rfl rfl (any_of HT_.out (by kernel_rfl)) (fun _ _ _ h => h) (Or.inl ⟨by rfl, ?_⟩) ?_ ?_; rotate_left
 ·intro w'; go_simp; with_reducible rfl
 rotate_left
 ·simp only [Act.put, List.setIfInBounds_toArray, List.set_cons_zero, List.set_cons_succ, i64_w, i32_w]; rfl
 refine pure_ (i := 1) (N := some 9) (v := ?_) (a' := ?_) (wl_Set_lb 12 3) rfl rfl (any_of HT_.out (by kernel_rfl)) (fun _ _ _ h => h) (Or.inl ⟨by rfl, ?_⟩) ?_ ?_; rotate_left
 ·intro w'; go_simp; with_reducible rfl
 rotate_left
 ·simp only [Act.put, List.setIfInBounds_toArray, List.set_cons_zero, List.set_cons_succ, i64_w, i32_w]; rfl
 refine pure_ (i := 2) (N := some 10) (v := ?_) (a' := ?_) (wl_Set_lb 12 7) rfl rfl (any_of HT_.out (by kernel_rfl)) (fun _ _ _ h => h) (Or.inl ⟨by rfl, ?_⟩) ?_ ?_; rotate_left
 ·intro w'; go_simp; with_reducible rfl
 rotate_left
 ·simp only [Act.put, List.setIfInBounds_toArray, List.set_cons_zero, List.set_cons_succ, i64_w, i32_w]; rfl
 refine pure_ (i := 4) (N := some 12) (v := ?_) (a' := ?_) (wl_Set_lb 12 23) rfl rfl (any_of HT_.out (by kernel_rfl)) (fun _ _ _ h => h) (Or.inl ⟨by rfl, ?_⟩) ?_ ?_; rotate_left
 ·intro w'; go_simp; with_reducible rfl
 rotate_left
 ·simp only [Act.put, List.setIfInBounds_toArray, List.set_cons_zero, List.set_cons_succ, i64_w, i32_w]; rfl
 refine pure_ (i := 5) (N := some 13) (v := ?_) (a' := ?_) (wl_Set_lb 12 55) rfl rfl (any_of HT_.out (by kernel_rfl)) (fun _ _ _ h => h) (Or.inl ⟨by rfl, ?_⟩) ?_ ?_; rotate_left
 ·intro w'; go_simp; with_reducible rfl
 rotate_left
 ·simp only [Act.put, List.setIfInBounds_toArray, List.set_cons_zero, List.set_cons_succ, i64_w, i32_w]; rfl
 refine pure_ (i := 6) (N := some 14) (v := ?_) (a' := ?_) (wl_Set_lb 12 119) rfl rfl (any_of HT_.out (by kernel_rfl)) (fun _ _ _ h => h) (Or.inl ⟨by rfl, ?_⟩) ?_ ?_; rotate_left
 ·intro w'; go_simp; with_reducible rfl
 rotate_left
 ·simp only [Act.put, List.setIfInBounds_toArray, List.set_cons_zero, List.set_cons_succ, i64_w, i32_w]; rfl
 refine pure_ (i := 8) (N := some 16) (v := ?_) (a' := ?_) (wl_Set_lb 12 375) rfl rfl (any_of HT_.out (by kernel_rfl)) (fun _ _ _ h => h) (Or.inl ⟨by rfl, ?_⟩) ?_ ?_; rotate_left
 ·intro w'; go_simp; with_reducible rfl
 rotate_left
 ·simp only [Act.put, List.setIfInBounds_toArray, List.set_cons_zero, List.set_cons_succ, i64_w, i32_w]; rfl
 refine pure_ (i := 10) (N := some 18) (v := ?_) (a' := ?_) (wl_Set_lb 12 1399) rfl rfl (any_of HT_.out (by kernel_rfl)) (fun _ _ _ h => h) (Or.inl ⟨by rfl, ?_⟩) ?_ ?_; rotate_left
 ·intro w'; go_simp; with_reducible rfl
 rotate_left
 ·simp only [Act.put, List.setIfInBounds_toArray, List.set_cons_zero, List.set_cons_succ, i64_w, i32_w]; rfl
 refine take_ (i := 3) (N := some 11) (v := ?_) (a' := ?_) (wl_Set_lb 12 1407) rfl rfl (take_ofW HT_.out HW_.out (by kernel_rfl)) (fun _ _ _ h => h) (Or.inl ⟨by rfl, ?_⟩) hHeld ?_ ?_; rotate_left
 ·rintro w' ⟨s0, s1, s2, s3, s4, s5⟩; go_simp; with_reducible rfl
 rotate_left
 ·simp only [Act.put, List.setIfInBounds_toArray, List.set_cons_zero, List.set_cons_succ, i64_w, i32_w]; rfl
 refine take_ (i := 7) (N := some 15) (v := ?_) (a' := ?_) (wl_Set_lb 12 1535) rfl rfl (take_ofW HT_.out HW_.out (by kernel_rfl)) (fun _ _ _ h => h) (Or.inl ⟨by rfl, ?_⟩) hHeld ?_ ?_; rotate_left
 ·rintro w' ⟨s0, s1, s2, s3, s4, s5⟩; go_simp; with_reducible rfl
 rotate_left
 ·simp only [Act.put, List.setIfInBounds_toArray, List.set_cons_zero, List.set_cons_succ, i64_w, i32_w]; rfl
 refine one_ (i := 9) (N := some 17) (wl_Set_lb 12 2047) rfl rfl (one_of HT_.out (by kernel_rfl)) (by decide) (fun K hK => ?_)
 refine goes_ Try.func37 (by kernel_rfl) rfl #[.agg #[.int .i64 c.f0, .int .i64 c.f1, .int .i64 c.f2, .int .i64 c.f3, .int .i64 c.f4], .int .i64 n] (by rfl) rfl rfl (by (try simp only [List.map_toArray, List.map_cons, List.map_nil]); first | done | rfl) ?_
 with_reducible refine (hx _).mono ?_
 rintro e u1 ⟨rfl, hbk⟩
 refine ⟨_, rfl, ?_⟩
 have n_HA := Aside0.mk (HA.out.below hbk)
 have n_HT := Aside0.mk (HT.out.trans (.of_below hbk))
 clear HA HT hbk
 have HA := n_HA
 have HT := n_HT
 clear n_HA n_HT
 refine hK.out _ _ ⟨((blk_cell HA.out.w 0).trans rfl), ((blk_cell HA.out.w 1).trans rfl), ((blk_cell HA.out.w 2).trans rfl), ((blk_cell HA.out.w 3).trans rfl), ((blk_cell HA.out.w 4).trans rfl), ((blk_cell HA.out.w 5).trans rfl)⟩ (fun hHeld => ?_)
 clear hK K
 refine norm_ (a' := ?_) ?_ ?_
 rotate_left
 ·show Act.put _ (some 17) _ = _
  simp only [Act.put, List.setIfInBounds_toArray, List.set_cons_zero, List.set_cons_succ, i64_w, i32_w]
  rfl
 refine one_ (i := 11) (N := some 19) (wl_Set_lb 12 4095) rfl rfl (one_of HT_.out (by kernel_rfl)) (by decide) (fun K hK => ?_)
 refine goes_ Try.func36 (by kernel_rfl) rfl #[.pointer (some ⟨gc, 0, none⟩), .int .i64 x, .int .u64 y] (by rfl) rfl rfl (by (try simp only [List.map_toArray, List.map_cons, List.map_nil]); first | done | rfl) ?_
 with_reducible refine (cel_Store gc gw ws st x y _ HA.out.m).mono ?_
 rintro e u2 ⟨rfl, hA, hT⟩
 refine ⟨_, rfl, ?_⟩
 have n_HA := Aside0.mk (HA.out.turn hA hT)
 have n_HT := Aside0.mk (HT.out.trans hT)
 clear HA HT hA hT
 have HA := n_HA
 have HT := n_HT
 clear n_HA n_HT
 refine hK.out _ _ ⟨((blk_cell HA.out.w 0).trans rfl), ((blk_cell HA.out.w 1).trans rfl), ((blk_cell HA.out.w 2).trans rfl), ((blk_cell HA.out.w 3).trans rfl), ((blk_cell HA.out.w 4).trans rfl), ((blk_cell HA.out.w 5).trans rfl)⟩ (fun hHeld => ?_)
 clear hK K
 refine norm_ (a' := ?_) ?_ ?_
 rotate_left
 ·show Act.put _ (some 19) _ = _
  simp only [Act.put, List.setIfInBounds_toArray, List.set_cons_zero, List.set_cons_succ, i64_w, i32_w]
  rfl
 refine done_ (done_of HT_.out (by kernel_rfl)) ?_
 go_end0
 exact ⟨rfl, HA.out, HT.out⟩
def wl_Say_lb (n m : Nat) : Array Bool := ((List.range n).map (fun i => m.testBit i)).toArray
def wl_Say.T1 : Bool × List (List Nat × List Nat) := (true, [([], []), ([0], [0]), ([1], [1]), ([2], [2]), ([], []), ([4], [4]), ([5], [5]), ([6], [6]), ([], []), ([7, 8], [7, 8]), ([], []), ([10], [10]), ([11], [11]), ([3, 9, 12, 9], [3, 9, 12])])
def wl_Say.B1 : List Nat := [0, 1, 3, 7, 0, 16, 48, 112, 0, 496, 0, 1024, 3072, 8191]
theorem wl_Say.tab1 : rtab .any (opsOf Try.f17 1) = wl_Say.T1 := by kernel_rfl
theorem wl_Say.bits1 : waitsOk wl_Say.T1.2 wl_Say.B1 = true := by kernel_rfl
set_option maxHeartbeats 8000000 in
set_option maxRecDepth 100000 in
theorem wl_Say (pw gc gw : Nat) (bk : Value) (c : S23) (ws : List Int) (st : Int) (n x op : Int) (W : World) (h : WAt W pw gc gw bk c ws st) (hx : ∀ W : World, Calls Try.prog 42 #[.agg #[.int .i64 c.f0, .int .i64 c.f1, .int .i64 c.f2, .int .i64 c.f3, .int .i64 c.f4], .int .i64 n] W (fun e w' => e = .returned (.int .i64 x) ∧ Below W.heap.size W w')) :
  Calls Try.prog 17 #[.pointer (some ⟨pw, 0, none⟩), .int .i64 n, .int .i64 op] W fun e w' => e = .returned (.tuple #[]) ∧ WAt w' pw gc gw bk c (cPutW ws x (IntKind.u64.wrap (wrap64 (op - -1)))) (cSt ws st x) ∧ Touch (fun k => k = gc ∨ k = gw) W w' := by
 have HA := Aside0.mk h
 have HT := Aside0.mk (Touch.refl (fun k => k = gc ∨ k = gw) W)
 clear h
 go_enter Try.func17, Try.ntmps17
 go_upto_region 1 with fail
 have n_HA := Aside0.mk (HA.out.drew)
 have n_HT := Aside0.mk (HT.out.drew)
 clear HA HT
 have HA := n_HA
 have HT := n_HT
 clear n_HA n_HT
 refine start_ (n := 14) (S := fun w' => w'.cell? ⟨pw, 0, none⟩ = some (.int .i64 c.f0) ∧ w'.cell? ⟨pw, 1, none⟩ = some (.int .i64 c.f1) ∧ w'.cell? ⟨pw, 2, none⟩ = some (.int .i64 c.f2) ∧ w'.cell? ⟨pw, 3, none⟩ = some (.int .i64 c.f3) ∧ w'.cell? ⟨pw, 4, none⟩ = some (.int .i64 c.f4) ∧ w'.cell? ⟨pw, 5, none⟩ = some (.pointer (some ⟨gc, 0, none⟩))) (ds := []) #[false, false, false, false, false, false, false, false, false, false, false, false, false, false] (by kernel_rfl) rfl rfl ⟨((blk_cell HA.out.w 0).trans rfl), ((blk_cell HA.out.w 1).trans rfl), ((blk_cell HA.out.w 2).trans rfl), ((blk_cell HA.out.w 3).trans rfl), ((blk_cell HA.out.w 4).trans rfl), ((blk_cell HA.out.w 5).trans rfl)⟩ (fun hHeld => ?_); refine with_tabW wl_Say.tab1 wl_Say.bits1 (fun HT_ HW_ => ?_)
 generalize W.drew = W1 at HA HT hHeld ⊢
 refine pure_ (i := 0) (N := some 8) (v := ?_) (a' := ?_) (wl_Say_lb 14 1) rfl rfl (any_of HT_.out (by kernel_rfl)) (fun _ _ _ h => h) (Or.inl ⟨by rfl, ?_⟩) ?_ ?_; rotate_left
 ·intro w'; go_simp; with_reducible rfl
 rotate_left
 ·simp only [Act.put, List.setIfInBounds_toArray, List.set_cons_zero, List.set_cons_succ, i64_w, i32_w]; rfl
 refine pure_ (i := 1) (N := some 9) (v := ?_) (a' := ?_) (wl_Say_lb 14 3) rfl rfl (any_of HT_.out (by kernel_rfl)) (fun _ _ _ h => h) (Or.inl ⟨by rfl, ?_⟩) ?_ ?_; rotate_left
 ·intro w'; go_simp; with_reducible rfl
 rotate_left
 ·simp only [Act.put, List.setIfInBounds_toArray, List.set_cons_zero, List.set_cons_succ, i64_w, i32_w]; rfl
 refine pure_ (i := 2) (N := some 10) (v := ?_) (a' := ?_) (wl_Say_lb 14 7) rfl rfl (any_of HT_.out (by kernel_rfl)) (fun _ _ _ h => h) (Or.inl ⟨by rfl, ?_⟩) ?_ ?_; rotate_left
 ·intro w'; go_simp; with_reducible rfl
 rotate_left
 ·simp only [Act.put, List.setIfInBounds_toArray, List.set_cons_zero, List.set_cons_succ, i64_w, i32_w]; rfl
 refine pure_ (i := 4) (N := some 12) (v := ?_) (a' := ?_) (wl_Say_lb 14 23) rfl rfl (any_of HT_.out (by kernel_rfl)) (fun _ _ _ h => h) (Or.inl ⟨by rfl, ?_⟩) ?_ ?_; rotate_left
 ·intro w'; go_simp; with_reducible rfl
 rotate_left
 ·simp only [Act.put, List.setIfInBounds_toArray, List.set_cons_zero, List.set_cons_succ, i64_w, i32_w]; rfl
 refine pure_ (i := 5) (N := some 13) (v := ?_) (a' := ?_) (wl_Say_lb 14 55) rfl rfl (any_of HT_.out (by kernel_rfl)) (fun _ _ _ h => h) (Or.inl ⟨by rfl, ?_⟩) ?_ ?_; rotate_left
 ·intro w'; go_simp; with_reducible rfl
 rotate_left
 ·simp only [Act.put, List.setIfInBounds_toArray, List.set_cons_zero, List.set_cons_succ, i64_w, i32_w]; rfl
 refine pure_ (i := 6) (N := some 14) (v := ?_) (a' := ?_) (wl_Say_lb 14 119) rfl rfl (any_of HT_.out (by kernel_rfl)) (fun _ _ _ h => h) (Or.inl ⟨by rfl, ?_⟩) ?_ ?_; rotate_left
 ·intro w'; go_simp; with_reducible rfl
 rotate_left
 ·simp only [Act.put, List.setIfInBounds_toArray, List.set_cons_zero, List.set_cons_succ, i64_w, i32_w]; rfl
 refine pure_ (i := 8) (N := some 16) (v := ?_) (a' := ?_) (wl_Say_lb 14 375) rfl rfl (any_of HT_.out (by kernel_rfl)) (fun _ _ _ h => h) (Or.inl ⟨by rfl, ?_⟩) ?_ ?_; rotate_left
 ·intro w'; go_simp; with_reducible rfl
 rotate_left
 ·simp only [Act.put, List.setIfInBounds_toArray, List.set_cons_zero, List.set_cons_succ, i64_w, i32_w]; rfl
 refine pure_ (i := 10) (N := some 18) (v := ?_) (a' := ?_) (wl_Say_lb 14 1399) rfl rfl (any_of HT_.out (by kernel_rfl)) (fun _ _ _ h => h) (Or.inl ⟨by rfl, ?_⟩) ?_ ?_; rotate_left
 ·intro w'; go_simp; with_reducible rfl
 rotate_left
 ·simp only [Act.put, List.setIfInBounds_toArray, List.set_cons_zero, List.set_cons_succ, i64_w, i32_w]; rfl
 refine pure_ (i := 11) (N := some 19) (v := ?_) (a' := ?_) (wl_Say_lb 14 3447) rfl rfl (any_of HT_.out (by kernel_rfl)) (fun _ _ _ h => h) (Or.inl ⟨by rfl, ?_⟩) ?_ ?_; rotate_left
 ·intro w'; go_simp; with_reducible rfl
 rotate_left
 ·simp only [Act.put, List.setIfInBounds_toArray, List.set_cons_zero, List.set_cons_succ, i64_w, i32_w]; rfl
 refine pure_ (i := 12) (N := some 20) (v := ?_) (a' := ?_) (wl_Say_lb 14 7543) rfl rfl (any_of HT_.out (by kernel_rfl)) (fun _ _ _ h => h) (Or.inl ⟨by rfl, ?_⟩) ?_ ?_; rotate_left
 ·intro w'; go_simp; with_reducible rfl
 rotate_left
 ·simp only [Act.put, List.setIfInBounds_toArray, List.set_cons_zero, List.set_cons_succ, i64_w, i32_w]; rfl
 refine take_ (i := 3) (N := some 11) (v := ?_) (a' := ?_) (wl_Say_lb 14 7551) rfl rfl (take_ofW HT_.out HW_.out (by kernel_rfl)) (fun _ _ _ h => h) (Or.inl ⟨by rfl, ?_⟩) hHeld ?_ ?_; rotate_left
 ·rintro w' ⟨s0, s1, s2, s3, s4, s5⟩; go_simp; with_reducible rfl
 rotate_left
 ·simp only [Act.put, List.setIfInBounds_toArray, List.set_cons_zero, List.set_cons_succ, i64_w, i32_w]; rfl
 refine take_ (i := 7) (N := some 15) (v := ?_) (a' := ?_) (wl_Say_lb 14 7679) rfl rfl (take_ofW HT_.out HW_.out (by kernel_rfl)) (fun _ _ _ h => h) (Or.inl ⟨by rfl, ?_⟩) hHeld ?_ ?_; rotate_left
 ·rintro w' ⟨s0, s1, s2, s3, s4, s5⟩; go_simp; with_reducible rfl
 rotate_left
 ·simp only [Act.put, List.setIfInBounds_toArray, List.set_cons_zero, List.set_cons_succ, i64_w, i32_w]; rfl
 refine one_ (i := 9) (N := some 17) (wl_Say_lb 14 8191) rfl rfl (one_of HT_.out (by kernel_rfl)) (by decide) (fun K hK => ?_)
 refine goes_ Try.func42 (by kernel_rfl) rfl #[.agg #[.int .i64 c.f0, .int .i64 c.f1, .int .i64 c.f2, .int .i64 c.f3, .int .i64 c.f4], .int .i64 n] (by rfl) rfl rfl (by (try simp only [List.map_toArray, List.map_cons, List.map_nil]); first | done | rfl) ?_
 with_reducible refine (hx _).mono ?_
 rintro e u1 ⟨rfl, hbk⟩
 refine ⟨_, rfl, ?_⟩
 have n_HA := Aside0.mk (HA.out.below hbk)
 have n_HT := Aside0.mk (HT.out.trans (.of_below hbk))
 clear HA HT hbk
 have HA := n_HA
 have HT := n_HT
 clear n_HA n_HT
 refine hK.out _ _ ⟨((blk_cell HA.out.w 0).trans rfl), ((blk_cell HA.out.w 1).trans rfl), ((blk_cell HA.out.w 2).trans rfl), ((blk_cell HA.out.w 3).trans rfl), ((blk_cell HA.out.w 4).trans rfl), ((blk_cell HA.out.w 5).trans rfl)⟩ (fun hHeld => ?_)
 clear hK K
 refine norm_ (a' := ?_) ?_ ?_
 rotate_left
 ·show Act.put _ (some 17) _ = _
  simp only [Act.put, List.setIfInBounds_toArray, List.set_cons_zero, List.set_cons_succ, i64_w, i32_w]
  rfl
 refine one_ (i := 13) (N := some 21) (wl_Say_lb 14 16383) rfl rfl (one_of HT_.out (by kernel_rfl)) (by decide) (fun K hK => ?_)
 refine goes_ Try.func36 (by kernel_rfl) rfl #[.pointer (some ⟨gc, 0, none⟩), .int .i64 x, .int .u64 (IntKind.u64.wrap (wrap64 (op - -1)))] (by rfl) rfl rfl (by (try simp only [List.map_toArray, List.map_cons, List.map_nil]); first | done | rfl) ?_
 with_reducible refine (cel_Store gc gw ws st x (IntKind.u64.wrap (wrap64 (op - -1))) _ HA.out.m).mono ?_
 rintro e u2 ⟨rfl, hA, hT⟩
 refine ⟨_, rfl, ?_⟩
 have n_HA := Aside0.mk (HA.out.turn hA hT)
 have n_HT := Aside0.mk (HT.out.trans hT)
 clear HA HT hA hT
 have HA := n_HA
 have HT := n_HT
 clear n_HA n_HT
 refine hK.out _ _ ⟨((blk_cell HA.out.w 0).trans rfl), ((blk_cell HA.out.w 1).trans rfl), ((blk_cell HA.out.w 2).trans rfl), ((blk_cell HA.out.w 3).trans rfl), ((blk_cell HA.out.w 4).trans rfl), ((blk_cell HA.out.w 5).trans rfl)⟩ (fun hHeld => ?_)
 clear hK K
 refine norm_ (a' := ?_) ?_ ?_
 rotate_left
 ·show Act.put _ (some 21) _ = _
  simp only [Act.put, List.setIfInBounds_toArray, List.set_cons_zero, List.set_cons_succ, i64_w, i32_w]
  rfl
 refine done_ (done_of HT_.out (by kernel_rfl)) ?_
 go_end0
 exact ⟨rfl, HA.out, HT.out⟩
def wl_Head_lb (n m : Nat) : Array Bool := ((List.range n).map (fun i => m.testBit i)).toArray
def wl_Head.T3 : Bool × List (List Nat × List Nat) := (true, [([], []), ([0], [0]), ([1], [1]), ([2], [2]), ([], []), ([], []), ([5], [5]), ([6], [6]), ([7], [7]), ([8], [8]), ([4, 9], [4, 9]), ([3, 10, 10], [3, 10]), ([11, 11, 0, 1, 2, 3, 4, 5, 6, 7, 8, 9, 10, 11], [11])])
def wl_Head.B3 : List Nat := [0, 1, 3, 7, 0, 0, 32, 96, 224, 480, 1008, 2047, 4095]
theorem wl_Head.tab3 : rtab .any (opsOf Try.f22 3) = wl_Head.T3 := by kernel_rfl
theorem wl_Head.bits3 : waitsOk wl_Head.T3.2 wl_Head.B3 = true := by kernel_rfl
set_option maxHeartbeats 8000000 in
set_option maxRecDepth 100000 in
theorem wl_Head (pw gc gw : Nat) (bk : Value) (c : S23) (ws : List Int) (st : Int) (key k hd : Int) (W : World) (h : WAt W pw gc gw bk c ws st) (hb : ∀ W : World, Calls Try.prog 52 #[.int .u64 key, .int .i64 c.f1] W (fun e w' => e = .returned (.int .i64 k) ∧ Below W.heap.size W w')) (hh : ∀ W : World, Calls Try.prog 51 #[.agg #[.int .i64 c.f0, .int .i64 c.f1, .int .i64 c.f2, .int .i64 c.f3, .int .i64 c.f4], .int .i64 k] W (fun e w' => e = .returned (.int .i64 hd) ∧ Below W.heap.size W w')) :
  Calls Try.prog 22 #[.pointer (some ⟨pw, 0, none⟩), .int .u64 key] W fun e w' => e = .returned (.int .i64 hd) ∧ WAt w' pw gc gw bk c ws st ∧ Touch (fun k => k = gc ∨ k = gw) W w' := by
 have HA := Aside0.mk h
 have HT := Aside0.mk (Touch.refl (fun k => k = gc ∨ k = gw) W)
 clear h
 go_enter Try.func22, Try.ntmps22
 go_upto_region 3 with fail
 have n_HA := Aside0.mk (HA.out.drew)
 have n_HT := Aside0.mk (HT.out.drew)
 clear HA HT
 have HA := n_HA
 have HT := n_HT
 clear n_HA n_HT
 refine start_ (n := 13) (S := fun w' => w'.cell? ⟨pw, 0, none⟩ = some (.int .i64 c.f0) ∧ w'.cell? ⟨pw, 1, none⟩ = some (.int .i64 c.f1) ∧ w'.cell? ⟨pw, 2, none⟩ = some (.int .i64 c.f2) ∧ w'.cell? ⟨pw, 3, none⟩ = some (.int .i64 c.f3) ∧ w'.cell? ⟨pw, 4, none⟩ = some (.int .i64 c.f4)) (ds := []) #[false, false, false, false, false, false, false, false, false, false, false, false, false] (by kernel_rfl) rfl rfl ⟨((blk_cell HA.out.w 0).trans rfl), ((blk_cell HA.out.w 1).trans rfl), ((blk_cell HA.out.w 2).trans rfl), ((blk_cell HA.out.w 3).trans rfl), ((blk_cell HA.out.w 4).trans rfl)⟩ (fun hHeld => ?_); refine with_tabW wl_Head.tab3 wl_Head.bits3 (fun HT_ HW_ => ?_)
 generalize W.drew = W1 at HA HT hHeld ⊢
 refine pure_ (i := 0) (N := some 7) (v := ?_) (a' := ?_) (wl_Head_lb 13 1) rfl rfl (any_of HT_.out (by kernel_rfl)) (fun _ _ _ h => h) (Or.inl ⟨by rfl, ?_⟩) ?_ ?_; rotate_left
 ·intro w'; go_simp; with_reducible rfl
 rotate_left
 ·simp only [Act.put, List.setIfInBounds_toArray, List.set_cons_zero, List.set_cons_succ, i64_w, i32_w]; rfl
 refine pure_ (i := 1) (N := some 8) (v := ?_) (a' := ?_) (wl_Head_lb 13 3) rfl rfl (any_of HT_.out (by kernel_rfl)) (fun _ _ _ h => h) (Or.inl ⟨by rfl, ?_⟩) ?_ ?_; rotate_left
 ·intro w'; go_simp; with_reducible rfl
 rotate_left
 ·simp only [Act.put, List.setIfInBounds_toArray, List.set_cons_zero, List.set_cons_succ, i64_w, i32_w]; rfl
 refine pure_ (i := 2) (N := some 9) (v := ?_) (a' := ?_) (wl_Head_lb 13 7) rfl rfl (any_of HT_.out (by kernel_rfl)) (fun _ _ _ h => h) (Or.inl ⟨by rfl, ?_⟩) ?_ ?_; rotate_left
 ·intro w'; go_simp; with_reducible rfl
 rotate_left
 ·simp only [Act.put, List.setIfInBounds_toArray, List.set_cons_zero, List.set_cons_succ, i64_w, i32_w]; rfl
 refine pure_ (i := 4) (N := some 11) (v := ?_) (a' := ?_) (wl_Head_lb 13 23) rfl rfl (any_of HT_.out (by kernel_rfl)) (fun _ _ _ h => h) (Or.inl ⟨by rfl, ?_⟩) ?_ ?_; rotate_left
 ·intro w'; go_simp; with_reducible rfl
 rotate_left
 ·simp only [Act.put, List.setIfInBounds_toArray, List.set_cons_zero, List.set_cons_succ, i64_w, i32_w]; rfl
 refine pure_ (i := 5) (N := some 12) (v := ?_) (a' := ?_) (wl_Head_lb 13 55) rfl rfl (any_of HT_.out (by kernel_rfl)) (fun _ _ _ h => h) (Or.inl ⟨by rfl, ?_⟩) ?_ ?_; rotate_left
 ·intro w'; go_simp; with_reducible rfl
 rotate_left
 ·simp only [Act.put, List.setIfInBounds_toArray, List.set_cons_zero, List.set_cons_succ, i64_w, i32_w]; rfl
 refine pure_ (i := 6) (N := some 13) (v := ?_) (a' := ?_) (wl_Head_lb 13 119) rfl rfl (any_of HT_.out (by kernel_rfl)) (fun _ _ _ h => h) (Or.inl ⟨by rfl, ?_⟩) ?_ ?_; rotate_left
 ·intro w'; go_simp; with_reducible rfl
 rotate_left
 ·simp only [Act.put, List.setIfInBounds_toArray, List.set_cons_zero, List.set_cons_succ, i64_w, i32_w]; rfl
 refine pure_ (i := 7) (N := some 14) (v := ?_) (a' := ?_) (wl_Head_lb 13 247) rfl rfl (any_of HT_.out (by kernel_rfl)) (fun _ _ _ h => h) (Or.inl ⟨by rfl, ?_⟩) ?_ ?_; rotate_left
 ·intro w'; go_simp; with_reducible rfl
 rotate_left
 ·simp only [Act.put, List.setIfInBounds_toArray, List.set_cons_zero, List.set_cons_succ, i64_w, i32_w]; rfl
 refine pure_ (i := 8) (N := some 15) (v := ?_) (a' := ?_) (wl_Head_lb 13 503) rfl rfl (any_of HT_.out (by kernel_rfl)) (fun _ _ _ h => h) (Or.inl ⟨by rfl, ?_⟩) ?_ ?_; rotate_left
 ·intro w'; go_simp; with_reducible rfl
 rotate_left
 ·simp only [Act.put, List.setIfInBounds_toArray, List.set_cons_zero, List.set_cons_succ, i64_w, i32_w]; rfl
 refine take_ (i := 3) (N := some 10) (v := ?_) (a' := ?_) (wl_Head_lb 13 511) rfl rfl (take_ofW HT_.out HW_.out (by kernel_rfl)) (fun _ _ _ h => h) (Or.inl ⟨by rfl, ?_⟩) hHeld ?_ ?_; rotate_left
 ·rintro w' ⟨s0, s1, s2, s3, s4⟩; go_simp; with_reducible rfl
 rotate_left
 ·simp only [Act.put, List.setIfInBounds_toArray, List.set_cons_zero, List.set_cons_succ, i64_w, i32_w]; rfl
 refine take_ (i := 9) (N := some 16) (v := ?_) (a' := ?_) (wl_Head_lb 13 1023) rfl rfl (take_ofW HT_.out HW_.out (by kernel_rfl)) (fun _ _ _ h => h) (Or.inl ⟨by rfl, ?_⟩) hHeld ?_ ?_; rotate_left
 ·rintro w' ⟨s0, s1, s2, s3, s4⟩; go_simp; with_reducible rfl
 rotate_left
 ·simp only [Act.put, List.setIfInBounds_toArray, List.set_cons_zero, List.set_cons_succ, i64_w, i32_w]; rfl
 refine one_ (i := 10) (N := some 17) (wl_Head_lb 13 2047) rfl rfl (one_of HT_.out (by kernel_rfl)) (by decide) (fun K hK => ?_)
 refine goes_ Try.func52 (by kernel_rfl) rfl #[.int .u64 key, .int .i64 c.f1] (by rfl) rfl rfl (by (try simp only [List.map_toArray, List.map_cons, List.map_nil]); first | done | rfl) ?_
 with_reducible refine (hb _).mono ?_
 rintro e u1 ⟨rfl, hbk⟩
 refine ⟨_, rfl, ?_⟩
 have n_HA := Aside0.mk (HA.out.below hbk)
 have n_HT := Aside0.mk (HT.out.trans (.of_below hbk))
 clear HA HT hbk
 have HA := n_HA
 have HT := n_HT
 clear n_HA n_HT
 refine hK.out _ _ ⟨((blk_cell HA.out.w 0).trans rfl), ((blk_cell HA.out.w 1).trans rfl), ((blk_cell HA.out.w 2).trans rfl), ((blk_cell HA.out.w 3).trans rfl), ((blk_cell HA.out.w 4).trans rfl)⟩ (fun hHeld => ?_)
 clear hK K
 refine norm_ (a' := ?_) ?_ ?_
 rotate_left
 ·show Act.put _ (some 17) _ = _
  simp only [Act.put, List.setIfInBounds_toArray, List.set_cons_zero, List.set_cons_succ, i64_w, i32_w]
  rfl
 refine one_ (i := 11) (N := some 18) (wl_Head_lb 13 4095) rfl rfl (one_of HT_.out (by kernel_rfl)) (by decide) (fun K hK => ?_)
 refine goes_ Try.func51 (by kernel_rfl) rfl #[.agg #[.int .i64 c.f0, .int .i64 c.f1, .int .i64 c.f2, .int .i64 c.f3, .int .i64 c.f4], .int .i64 k] (by rfl) rfl rfl (by (try simp only [List.map_toArray, List.map_cons, List.map_nil]); first | done | rfl) ?_
 with_reducible refine (hh _).mono ?_
 rintro e u2 ⟨rfl, hbk⟩
 refine ⟨_, rfl, ?_⟩
 have n_HA := Aside0.mk (HA.out.below hbk)
 have n_HT := Aside0.mk (HT.out.trans (.of_below hbk))
 clear HA HT hbk
 have HA := n_HA
 have HT := n_HT
 clear n_HA n_HT
 refine hK.out _ _ ⟨((blk_cell HA.out.w 0).trans rfl), ((blk_cell HA.out.w 1).trans rfl), ((blk_cell HA.out.w 2).trans rfl), ((blk_cell HA.out.w 3).trans rfl), ((blk_cell HA.out.w 4).trans rfl)⟩ (fun hHeld => ?_)
 clear hK K
 refine norm_ (a' := ?_) ?_ ?_
 rotate_left
 ·show Act.put _ (some 18) _ = _
  simp only [Act.put, List.setIfInBounds_toArray, List.set_cons_zero, List.set_cons_succ, i64_w, i32_w]
  rfl
 refine pure_ (i := 12) (N := some 4) (v := ?_) (a' := ?_) (wl_Head_lb 13 8191) rfl rfl (any_of HT_.out (by kernel_rfl)) (fun _ _ _ h => h) (Or.inl ⟨by rfl, ?_⟩) ?_ ?_; rotate_left
 ·intro w'; go_simp; with_reducible rfl
 rotate_left
 ·simp only [Act.put, List.setIfInBounds_toArray, List.set_cons_zero, List.set_cons_succ, i64_w, i32_w]; rfl
 refine done_ (done_of HT_.out (by kernel_rfl)) ?_
 go_wp2
 go_ret
 exact ⟨rfl, HA.out, HT.out⟩
set_option maxHeartbeats 8000000 in
set_option maxRecDepth 100000 in
theorem wl_Head_nil (key : Int) (W : World) : Calls Try.prog 22 #[.pointer none, .int .u64 key] W fun e w' => e = .returned (.int .i64 (-1)) ∧ w' = W := by
 go_enter Try.func22, Try.ntmps22
 go_wp2
 go_ret
 exact ⟨rfl, rfl⟩
set_option maxHeartbeats 8000000 in
set_option maxRecDepth 100000 in
theorem wl_Set_nil (n y : Int) (W : World) : Calls Try.prog 15 #[.pointer none, .int .i64 n, .int .u64 y] W fun e w' => e = .returned (.tuple #[]) ∧ w' = W := by
 go_enter Try.func15, Try.ntmps15
 go_wp2
 go_end0
 exact ⟨rfl, rfl⟩
set_option maxHeartbeats 8000000 in
set_option maxRecDepth 100000 in
theorem wl_Say_nil (n y : Int) (W : World) : Calls Try.prog 17 #[.pointer none, .int .i64 n, .int .i64 y] W fun e w' => e = .returned (.tuple #[]) ∧ w' = W := by
 go_enter Try.func17, Try.ntmps17
 go_wp2
 go_end0
 exact ⟨rfl, rfl⟩
def wl_New_lb (n m : Nat) : Array Bool := ((List.range n).map (fun i => m.testBit i)).toArray
def wl_New.T4 : Bool × List (List Nat × List Nat) := (true, [([], []), ([], []), ([1], [1]), ([2, 2], [2]), ([], []), ([0, 3, 4], [0, 3, 4]), ([5], [5]), ([6, 3, 0, 1, 2, 3, 4, 5, 6], [6]), ([7, 0, 1, 2, 3, 4, 5, 6, 7], [])])
def wl_New.B4 : List Nat := [0, 0, 2, 6, 0, 31, 63, 127, 255]
theorem wl_New.tab4 : rtab .any (opsOf Try.f10 4) = wl_New.T4 := by kernel_rfl
theorem wl_New.bits4 : waitsOk wl_New.T4.2 wl_New.B4 = true := by kernel_rfl
theorem cNew_len {n : Int} (h0 : 0 ≤ n) (h1 : n ≤ 1048576) : ((cNew n : Nat) : Int) = n := by
 unfold cNew
 rw [if_neg (by omega)]
 omega
set_option maxHeartbeats 8000000 in
set_option maxRecDepth 100000 in
theorem wl_New_no (c : S23) (h : ¬ Ok c.f0 c.f1 c.f2 c.f3 c.f4) (W : World) :
  Calls Try.prog 10 #[.agg #[.int .i64 c.f0, .int .i64 c.f1, .int .i64 c.f2, .int .i64 c.f3, .int .i64 c.f4]] W fun e w' => e = .returned (.tuple #[.pointer none, .int .i64 1]) ∧ Below W.heap.size W w' := by
 have HN := Aside0.mk h
 have HB := Aside0.mk (Below.refl W.heap.size W)
 clear h
 go_enter Try.func10, Try.ntmps10
 go_wp2_with (first | ((with_reducible refine gate_dst (N := 1) rfl ?_); refine box_event ?hg (N := 1) ?hd (cs := #[.int .i64 c.f0, .int .i64 c.f1, .int .i64 c.f2, .int .i64 c.f3, .int .i64 c.f4]) (t := 23) ?hr ?_; (case hd => rfl); (case hg => rfl); (case hr => first | (go_simp; done) | (go_simp; rfl)); intro g1 hg w1 hbox hbk; have B1 := Aside0.mk hbox; have HGB1 := Aside0.mk (show W.heap.size ≤ g1 from by rw [hg]; exact HB.out.size); have n_HB := Aside0.mk (below_step HB.out hbk); clear HB; have HB := n_HB; clear n_HB; have c1_0 : w1.cell? ⟨g1, 0, none⟩ = some (.int .i64 c.f0) := (blk_cell B1.out 0).trans rfl; have c1_1 : w1.cell? ⟨g1, 1, none⟩ = some (.int .i64 c.f1) := (blk_cell B1.out 1).trans rfl; have c1_2 : w1.cell? ⟨g1, 2, none⟩ = some (.int .i64 c.f2) := (blk_cell B1.out 2).trans rfl; have c1_3 : w1.cell? ⟨g1, 3, none⟩ = some (.int .i64 c.f3) := (blk_cell B1.out 3).trans rfl; have c1_4 : w1.cell? ⟨g1, 4, none⟩ = some (.int .i64 c.f4) := (blk_cell B1.out 4).trans rfl; clear hbk hbox hg) | (go_at_call 32; (with_reducible refine (p_New_no c HN.out _).mono ?_); rintro e w2 ⟨rfl, hbk⟩; have n_ := Aside0.mk (below_step HB.out hbk); clear HB hbk; have HB := n_; clear n_))
 go_ret2
 exact ⟨rfl, HB.out⟩
set_option maxHeartbeats 8000000 in
set_option maxRecDepth 100000 in
theorem wl_New_ok (c : S23) (h : Ok c.f0 c.f1 c.f2 c.f3 c.f4) (len : Int) (hl : ∀ W : World, Calls Try.prog 34 #[.agg #[.int .i64 c.f0, .int .i64 c.f1, .int .i64 c.f2, .int .i64 c.f3, .int .i64 c.f4]] W (fun e w' => e = .returned (.int .i64 len) ∧ Below W.heap.size W w')) (W : World) :
  Calls Try.prog 10 #[.agg #[.int .i64 c.f0, .int .i64 c.f1, .int .i64 c.f2, .int .i64 c.f3, .int .i64 c.f4]] W fun e w' => ∃ pw gc gw p gt go gn, e = .returned (.tuple #[.pointer (some ⟨pw, 0, none⟩), .int .i64 0]) ∧ WAt w' pw gc gw (.pointer (some ⟨p, 0, none⟩)) c (List.replicate (cNew len) 0) 0 ∧ BookAt w' p gt go gn (newRB c) ∧ (p ≠ gc ∧ gt ≠ gc ∧ go ≠ gc ∧ gn ≠ gc) ∧ (p ≠ gw ∧ gt ≠ gw ∧ go ≠ gw ∧ gn ≠ gw) ∧ (W.heap.size ≤ pw ∧ W.heap.size ≤ gc ∧ W.heap.size ≤ gw) ∧ Below W.heap.size W w' := by
 have HO := Aside0.mk h
 have HB := Aside0.mk (Below.refl W.heap.size W)
 clear h
 go_enter Try.func10, Try.ntmps10
 go_upto_region 4 with (first | ((with_reducible refine gate_dst (N := 1) rfl ?_); refine box_event ?hg (N := 1) ?hd (cs := #[.int .i64 c.f0, .int .i64 c.f1, .int .i64 c.f2, .int .i64 c.f3, .int .i64 c.f4]) (t := 23) ?hr ?_; (case hd => rfl); (case hg => rfl); (case hr => first | (go_simp; done) | (go_simp; rfl)); intro g1 hg w1 hbox hbk; have B1 := Aside0.mk hbox; have HGB1 := Aside0.mk (show W.heap.size ≤ g1 from by rw [hg]; exact HB.out.size); have n_HB := Aside0.mk (below_step HB.out hbk); clear HB; have HB := n_HB; clear n_HB; have c1_0 : w1.cell? ⟨g1, 0, none⟩ = some (.int .i64 c.f0) := (blk_cell B1.out 0).trans rfl; have c1_1 : w1.cell? ⟨g1, 1, none⟩ = some (.int .i64 c.f1) := (blk_cell B1.out 1).trans rfl; have c1_2 : w1.cell? ⟨g1, 2, none⟩ = some (.int .i64 c.f2) := (blk_cell B1.out 2).trans rfl; have c1_3 : w1.cell? ⟨g1, 3, none⟩ = some (.int .i64 c.f3) := (blk_cell B1.out 3).trans rfl; have c1_4 : w1.cell? ⟨g1, 4, none⟩ = some (.int .i64 c.f4) := (blk_cell B1.out 4).trans rfl; clear hbk hbox hg) | (go_at_call 32; (with_reducible refine (p_New c HO.out _).mono ?_); rintro e w2 ⟨p, gt, go, gn, rfl, hA, hbk, hg1, hg2, hg3, hg4⟩; have HA := Aside0.mk hA; clear c1_0 c1_1 c1_2 c1_3 c1_4; have n_B1 := Aside0.mk (blk_below B1.out hbk); have n_HB := Aside0.mk (below_step HB.out hbk); clear B1 HB; have B1 := n_B1; have HB := n_HB; clear n_B1 n_HB; clear hbk hA hg1 hg2 hg3 hg4))
 have n_HA := Aside0.mk (HA.out.drew)
 have n_B1 := Aside0.mk (blk_drew B1.out)
 have n_HB := Aside0.mk (below_drew1 HB.out)
 clear HA B1 HB
 have HA := n_HA
 have B1 := n_B1
 have HB := n_HB
 clear n_HA n_B1 n_HB
 refine start_ (n := 9) (S := fun w' => w'.cell? ⟨g1, 0, none⟩ = some (.int .i64 c.f0) ∧ w'.cell? ⟨g1, 1, none⟩ = some (.int .i64 c.f1) ∧ w'.cell? ⟨g1, 2, none⟩ = some (.int .i64 c.f2) ∧ w'.cell? ⟨g1, 3, none⟩ = some (.int .i64 c.f3) ∧ w'.cell? ⟨g1, 4, none⟩ = some (.int .i64 c.f4)) (ds := []) #[false, false, false, false, false, false, false, false, false] (by kernel_rfl) rfl rfl ⟨((blk_cell B1.out 0).trans rfl), ((blk_cell B1.out 1).trans rfl), ((blk_cell B1.out 2).trans rfl), ((blk_cell B1.out 3).trans rfl), ((blk_cell B1.out 4).trans rfl)⟩ (fun hHeld => ?_); refine with_tabW wl_New.tab4 wl_New.bits4 (fun HT_ HW_ => ?_)
 generalize w2.drew = W1 at HA B1 HB hHeld ⊢
 refine pure_ (i := 4) (N := some 18) (v := ?_) (a' := ?_) (wl_New_lb 9 16) rfl rfl (any_of HT_.out (by kernel_rfl)) (fun _ _ _ h => h) (Or.inl ⟨by rfl, ?_⟩) ?_ ?_; rotate_left
 ·intro w'; go_simp; with_reducible rfl
 rotate_left
 ·simp only [Act.put, List.setIfInBounds_toArray, List.set_cons_zero, List.set_cons_succ, i64_w, i32_w]; rfl
 refine take_ (i := 0) (N := some 14) (v := ?_) (a' := ?_) (wl_New_lb 9 17) rfl rfl (take_ofW HT_.out HW_.out (by kernel_rfl)) (fun _ _ _ h => h) (Or.inl ⟨by rfl, ?_⟩) hHeld ?_ ?_; rotate_left
 ·rintro w' ⟨s0, s1, s2, s3, s4⟩; go_simp; with_reducible rfl
 rotate_left
 ·simp only [Act.put, List.setIfInBounds_toArray, List.set_cons_zero, List.set_cons_succ, i64_w, i32_w]; rfl
 refine take_ (i := 1) (N := some 15) (v := ?_) (a' := ?_) (wl_New_lb 9 19) rfl rfl (take_ofW HT_.out HW_.out (by kernel_rfl)) (fun _ _ _ h => h) (Or.inl ⟨by rfl, ?_⟩) hHeld ?_ ?_; rotate_left
 ·rintro w' ⟨s0, s1, s2, s3, s4⟩; go_simp; with_reducible rfl
 rotate_left
 ·simp only [Act.put, List.setIfInBounds_toArray, List.set_cons_zero, List.set_cons_succ, i64_w, i32_w]; rfl
 refine one_ (i := 2) (N := some 16) (wl_New_lb 9 23) rfl rfl (one_of HT_.out (by kernel_rfl)) (by decide) (fun K hK => ?_)
 refine goes_ Try.func34 (by kernel_rfl) rfl #[.agg #[.int .i64 c.f0, .int .i64 c.f1, .int .i64 c.f2, .int .i64 c.f3, .int .i64 c.f4]] (by rfl) rfl rfl (by (try simp only [List.map_toArray, List.map_cons, List.map_nil]); first | done | rfl) ?_
 with_reducible refine (hl _).mono ?_
 rintro e u1 ⟨rfl, hbk⟩
 refine ⟨_, rfl, ?_⟩
 have n_HA := Aside0.mk (HA.out.below hbk)
 have n_B1 := Aside0.mk (blk_below B1.out hbk)
 have n_HB := Aside0.mk (below_step HB.out hbk)
 clear HA B1 HB hbk
 have HA := n_HA
 have B1 := n_B1
 have HB := n_HB
 clear n_HA n_B1 n_HB
 refine hK.out _ _ ⟨((blk_cell B1.out 0).trans rfl), ((blk_cell B1.out 1).trans rfl), ((blk_cell B1.out 2).trans rfl), ((blk_cell B1.out 3).trans rfl), ((blk_cell B1.out 4).trans rfl)⟩ (fun hHeld => ?_)
 clear hK K
 refine norm_ (a' := ?_) ?_ ?_
 rotate_left
 ·show Act.put _ (some 16) _ = _
  simp only [Act.put, List.setIfInBounds_toArray, List.set_cons_zero, List.set_cons_succ, i64_w, i32_w]
  rfl
 refine one_ (i := 3) (N := some 17) (wl_New_lb 9 31) rfl rfl (one_of HT_.out (by kernel_rfl)) (by decide) (fun K hK => ?_)
 refine goes_ Try.func33 (by kernel_rfl) rfl #[.int .i64 len] (by rfl) rfl rfl (by (try simp only [List.map_toArray, List.map_cons, List.map_nil]); first | done | rfl) ?_
 with_reducible refine (cel_New len _).mono ?_
 rintro e u2 ⟨gc, gw, rfl, hC, hw1, hw2, hbk⟩
 refine ⟨_, rfl, ?_⟩
 have HC := Aside0.mk hC
 have HD := Aside0.mk (show (p ≠ gc ∧ gt ≠ gc ∧ go ≠ gc ∧ gn ≠ gc) ∧ (p ≠ gw ∧ gt ≠ gw ∧ go ≠ gw ∧ gn ≠ gw) ∧ (W.heap.size ≤ gc ∧ W.heap.size ≤ gw) from by have := HA.out.lt; have := HB.out.size; omega)
 have n_HA := Aside0.mk (HA.out.below hbk)
 have n_B1 := Aside0.mk (blk_below B1.out hbk)
 have n_HB := Aside0.mk (below_step HB.out hbk)
 clear HA B1 HB hbk
 have HA := n_HA
 have B1 := n_B1
 have HB := n_HB
 clear n_HA n_B1 n_HB
 clear hC hw1 hw2
 refine hK.out _ _ ⟨((blk_cell B1.out 0).trans rfl), ((blk_cell B1.out 1).trans rfl), ((blk_cell B1.out 2).trans rfl), ((blk_cell B1.out 3).trans rfl), ((blk_cell B1.out 4).trans rfl)⟩ (fun hHeld => ?_)
 clear hK K
 refine norm_ (a' := ?_) ?_ ?_
 rotate_left
 ·show Act.put _ (some 17) _ = _
  simp only [Act.put, List.setIfInBounds_toArray, List.set_cons_zero, List.set_cons_succ, i64_w, i32_w]
  rfl
 refine pure_ (i := 5) (N := some 19) (v := ?_) (a' := ?_) (wl_New_lb 9 63) rfl rfl (any_of HT_.out (by kernel_rfl)) (fun _ _ _ h => h) (Or.inl ⟨by rfl, ?_⟩) ?_ ?_; rotate_left
 ·intro w'; go_simp; with_reducible rfl
 rotate_left
 ·simp only [Act.put, List.setIfInBounds_toArray, List.set_cons_zero, List.set_cons_succ, i64_w, i32_w]; rfl
 refine one_ (i := 6) (N := some 20) (wl_New_lb 9 127) rfl rfl (one_of HT_.out (by kernel_rfl)) (by decide) (fun K hK => ?_)
 refine value_ (w1 := ?_) (v := ?_) (by rfl) rfl ?_ ?_
 rotate_left 2
 ·go_simp
  constructor
  ·rfl
  ·rfl
 have hbk := below_alloc (Below.refl u2.heap.size u2) (.cells #[.int .i64 c.f0, .int .i64 c.f1, .int .i64 c.f2, .int .i64 c.f3, .int .i64 c.f4, .pointer (some ⟨gc, 0, none⟩), .pointer (some ⟨p, 0, none⟩)] 40)
 have BW := Aside0.mk (blk_new u2 (.cells #[.int .i64 c.f0, .int .i64 c.f1, .int .i64 c.f2, .int .i64 c.f3, .int .i64 c.f4, .pointer (some ⟨gc, 0, none⟩), .pointer (some ⟨p, 0, none⟩)] 40))
 have HPW := Aside0.mk (show W.heap.size ≤ u2.heap.size ∧ u2.heap.size ≠ gc ∧ u2.heap.size ≠ gw from by have := HB.out.size; have := HC.out.lt; omega)
 have n_HC := Aside0.mk (HC.out.below hbk)
 clear HC
 have HC := n_HC
 clear n_HC
 have n_HA := Aside0.mk (HA.out.below hbk)
 have n_B1 := Aside0.mk (blk_below B1.out hbk)
 have n_HB := Aside0.mk (below_step HB.out hbk)
 clear HA B1 HB hbk
 have HA := n_HA
 have B1 := n_B1
 have HB := n_HB
 clear n_HA n_B1 n_HB
 generalize u2.alloc (.cells #[.int .i64 c.f0, .int .i64 c.f1, .int .i64 c.f2, .int .i64 c.f3, .int .i64 c.f4, .pointer (some ⟨gc, 0, none⟩), .pointer (some ⟨p, 0, none⟩)] 40) = u3 at HA B1 HB HC BW ⊢
 generalize u2.heap.size = pw at HPW BW ⊢
 refine hK.out _ _ ⟨((blk_cell B1.out 0).trans rfl), ((blk_cell B1.out 1).trans rfl), ((blk_cell B1.out 2).trans rfl), ((blk_cell B1.out 3).trans rfl), ((blk_cell B1.out 4).trans rfl)⟩ (fun hHeld => ?_)
 clear hK K
 refine norm_ (a' := ?_) ?_ ?_
 rotate_left
 ·show Act.put _ (some 20) _ = _
  simp only [Act.put, List.setIfInBounds_toArray, List.set_cons_zero, List.set_cons_succ, i64_w, i32_w]
  rfl
 refine pure_ (i := 7) (N := some 2) (v := ?_) (a' := ?_) (wl_New_lb 9 255) rfl rfl (any_of HT_.out (by kernel_rfl)) (fun _ _ _ h => h) (Or.inl ⟨by rfl, ?_⟩) ?_ ?_; rotate_left
 ·intro w'; go_simp; with_reducible rfl
 rotate_left
 ·simp only [Act.put, List.setIfInBounds_toArray, List.set_cons_zero, List.set_cons_succ, i64_w, i32_w]; rfl
 refine pure_ (i := 8) (N := some 3) (v := ?_) (a' := ?_) (wl_New_lb 9 511) rfl rfl (any_of HT_.out (by kernel_rfl)) (fun _ _ _ h => h) (Or.inl ⟨by rfl, ?_⟩) ?_ ?_; rotate_left
 ·intro w'; go_simp; with_reducible rfl
 rotate_left
 ·simp only [Act.put, List.setIfInBounds_toArray, List.set_cons_zero, List.set_cons_succ, i64_w, i32_w]; rfl
 refine done_ (done_of HT_.out (by kernel_rfl)) ?_
 go_wp2
 go_ret2
 exact ⟨pw, gc, gw, p, gt, go, gn, rfl, ⟨BW.out, HC.out, HPW.out.2.1, HPW.out.2.2⟩, HA.out, HD.out.1, HD.out.2.1, ⟨HPW.out.1, HD.out.2.2.1, HD.out.2.2.2⟩, HB.out⟩
def awC : S23 := ⟨2, 2, 1, 5, 3⟩
theorem awOk : Ok awC.f0 awC.f1 awC.f2 awC.f3 awC.f4 := by decide +kernel
def aww0 : List Int := List.replicate (cNew 23) 0
def aww1 : List Int := cPutW aww0 22 (IntKind.u64.wrap (wrap64 (5 - -1)))
def aww2 : List Int := cSwW aww1 1 0 6
def aww3 : List Int := cSwW aww2 20 0 1
def aww4 : List Int := cPutW aww3 4 8
def corrielaw08_awake.f : Option Bool := some true
set_option maxHeartbeats 8000000 in
set_option maxRecDepth 100000 in
theorem corrielaw08_awake.calls (r : Bool) (w : World) (h : corrielaw08_awake.f = some r) :
  Calls Try.prog 8 #[] w fun e w' => e = .returned (.bool r) ∧ Below w.heap.size w w' := by
 obtain rfl := Option.some.inj h
 clear h
 have HB := Aside0.mk (Below.refl w.heap.size w)
 have H1 := Aside0.mk (show ∀ (W : World) (pw gc gw : Nat) (bk : Value), WAt W pw gc gw bk awC aww0 0 → Calls Try.prog 17 #[.pointer (some ⟨pw, 0, none⟩), .int .i64 1, .int .i64 5] W (fun e w' => e = .returned (.tuple #[]) ∧ WAt w' pw gc gw bk awC aww1 1 ∧ Touch (fun k => k = gc ∨ k = gw) W w') from fun W pw gc gw bk h => by
  have h2 := wl_Say pw gc gw bk awC aww0 0 1 22 5 W h (fun W => layout_Ann.calls 20 awC.f0 awC.f1 awC.f2 awC.f3 awC.f4 1 22 W (by decide +kernel))
  rw [show cSt aww0 0 22 = 1 from by kernel_rfl] at h2
  exact h2)
 have H2 := Aside0.mk (show ∀ (W : World) (pw gc gw : Nat) (bk : Value), WAt W pw gc gw bk awC aww1 1 → Calls Try.prog 24 #[.pointer (some ⟨pw, 0, none⟩), .int .i64 1, .int .u64 0, .int .u64 6] W (fun e w' => e = .returned (.bool true) ∧ WAt w' pw gc gw bk awC aww2 2 ∧ Touch (fun k => k = gc ∨ k = gw) W w') from fun W pw gc gw bk h => by
  have h2 := wl_Link pw gc gw bk awC aww1 1 1 1 0 6 W h (fun W => layout_Next.calls 20 awC.f0 awC.f1 awC.f2 awC.f3 awC.f4 1 1 W (by decide +kernel))
  rw [show cSt aww1 1 1 = 2 from by kernel_rfl, show cSwB aww1 1 0 = true from by kernel_rfl] at h2
  exact h2)
 have H3 := Aside0.mk (show ∀ (W : World) (pw gc gw : Nat) (bk : Value), WAt W pw gc gw bk awC aww2 2 → Calls Try.prog 16 #[.pointer (some ⟨pw, 0, none⟩), .int .i64 5, .int .u64 0, .int .u64 1] W (fun e w' => e = .returned (.bool true) ∧ WAt w' pw gc gw bk awC aww3 3 ∧ Touch (fun k => k = gc ∨ k = gw) W w') from fun W pw gc gw bk h => by
  have h2 := wl_Turn pw gc gw bk awC aww2 2 5 20 0 1 W h (fun W => layout_Word.calls 20 awC.f0 awC.f1 awC.f2 awC.f3 awC.f4 5 20 W (by decide +kernel))
  rw [show cSt aww2 2 20 = 3 from by kernel_rfl, show cSwB aww2 20 0 = true from by kernel_rfl] at h2
  exact h2)
 have H4 := Aside0.mk (show ∀ (W : World) (pw gc gw : Nat) (bk : Value), WAt W pw gc gw bk awC aww3 3 → Calls Try.prog 15 #[.pointer (some ⟨pw, 0, none⟩), .int .i64 4, .int .u64 8] W (fun e w' => e = .returned (.tuple #[]) ∧ WAt w' pw gc gw bk awC aww4 4 ∧ Touch (fun k => k = gc ∨ k = gw) W w') from fun W pw gc gw bk h => by
  have h2 := wl_Set pw gc gw bk awC aww3 3 4 4 8 W h (fun W => layout_Next.calls 20 awC.f0 awC.f1 awC.f2 awC.f3 awC.f4 4 4 W (by decide +kernel))
  rw [show cSt aww3 3 4 = 4 from by kernel_rfl] at h2
  exact h2)
 have H5 := Aside0.mk (show ∀ (W : World) (pw gc gw : Nat) (bk : Value), WAt W pw gc gw bk awC aww4 4 → Calls Try.prog 20 #[.pointer (some ⟨pw, 0, none⟩), .int .i64 1] W (fun e w' => e = .returned (.int .i64 5) ∧ WAt w' pw gc gw bk awC aww4 5 ∧ Touch (fun k => k = gc ∨ k = gw) W w') from fun W pw gc gw bk h => by
  have h2 := wl_Ann pw gc gw bk awC aww4 4 1 22 W h (fun W => layout_Ann.calls 20 awC.f0 awC.f1 awC.f2 awC.f3 awC.f4 1 22 W (by decide +kernel))
  rw [show cSt aww4 4 22 = 5 from by kernel_rfl, show wrap64 (wrap64 (cRd aww4 22) + -1) = 5 from by kernel_rfl] at h2
  exact h2)
 have H6 := Aside0.mk (show ∀ (W : World) (pw gc gw : Nat) (bk : Value), WAt W pw gc gw bk awC aww4 5 → Calls Try.prog 20 #[.pointer (some ⟨pw, 0, none⟩), .int .i64 0] W (fun e w' => e = .returned (.int .i64 (-1)) ∧ WAt w' pw gc gw bk awC aww4 6 ∧ Touch (fun k => k = gc ∨ k = gw) W w') from fun W pw gc gw bk h => by
  have h2 := wl_Ann pw gc gw bk awC aww4 5 0 21 W h (fun W => layout_Ann.calls 20 awC.f0 awC.f1 awC.f2 awC.f3 awC.f4 0 21 W (by decide +kernel))
  rw [show cSt aww4 5 21 = 6 from by kernel_rfl, show wrap64 (wrap64 (cRd aww4 21) + -1) = -1 from by kernel_rfl] at h2
  exact h2)
 have H7 := Aside0.mk (show ∀ (W : World) (pw gc gw : Nat) (bk : Value), WAt W pw gc gw bk awC aww4 6 → Calls Try.prog 18 #[.pointer (some ⟨pw, 0, none⟩), .int .i64 1] W (fun e w' => e = .returned (.int .u64 6) ∧ WAt w' pw gc gw bk awC aww4 7 ∧ Touch (fun k => k = gc ∨ k = gw) W w') from fun W pw gc gw bk h => by
  have h2 := wl_Next pw gc gw bk awC aww4 6 1 1 W h (fun W => layout_Next.calls 20 awC.f0 awC.f1 awC.f2 awC.f3 awC.f4 1 1 W (by decide +kernel))
  rw [show cSt aww4 6 1 = 7 from by kernel_rfl, show cRd aww4 1 = 6 from by kernel_rfl] at h2
  exact h2)
 have H8 := Aside0.mk (show ∀ (W : World) (pw gc gw : Nat) (bk : Value), WAt W pw gc gw bk awC aww4 7 → Calls Try.prog 18 #[.pointer (some ⟨pw, 0, none⟩), .int .i64 4] W (fun e w' => e = .returned (.int .u64 8) ∧ WAt w' pw gc gw bk awC aww4 8 ∧ Touch (fun k => k = gc ∨ k = gw) W w') from fun W pw gc gw bk h => by
  have h2 := wl_Next pw gc gw bk awC aww4 7 4 4 W h (fun W => layout_Next.calls 20 awC.f0 awC.f1 awC.f2 awC.f3 awC.f4 4 4 W (by decide +kernel))
  rw [show cSt aww4 7 4 = 8 from by kernel_rfl, show cRd aww4 4 = 8 from by kernel_rfl] at h2
  exact h2)
 have H9 := Aside0.mk (show ∀ (W : World) (pw gc gw : Nat) (bk : Value), WAt W pw gc gw bk awC aww4 8 → Calls Try.prog 19 #[.pointer (some ⟨pw, 0, none⟩), .int .i64 5] W (fun e w' => e = .returned (.int .u64 1) ∧ WAt w' pw gc gw bk awC aww4 9 ∧ Touch (fun k => k = gc ∨ k = gw) W w') from fun W pw gc gw bk h => by
  have h2 := wl_Word pw gc gw bk awC aww4 8 5 20 W h (fun W => layout_Word.calls 20 awC.f0 awC.f1 awC.f2 awC.f3 awC.f4 5 20 W (by decide +kernel))
  rw [show cSt aww4 8 20 = 9 from by kernel_rfl, show cRd aww4 20 = 1 from by kernel_rfl] at h2
  exact h2)
 have H10 := Aside0.mk (show ∀ (W : World) (pw gc gw : Nat) (bk : Value), WAt W pw gc gw bk awC aww4 9 → Calls Try.prog 16 #[.pointer (some ⟨pw, 0, none⟩), .int .i64 5, .int .u64 0, .int .u64 2] W (fun e w' => e = .returned (.bool false) ∧ WAt w' pw gc gw bk awC aww4 10 ∧ Touch (fun k => k = gc ∨ k = gw) W w') from fun W pw gc gw bk h => by
  have h2 := wl_Turn pw gc gw bk awC aww4 9 5 20 0 2 W h (fun W => layout_Word.calls 20 awC.f0 awC.f1 awC.f2 awC.f3 awC.f4 5 20 W (by decide +kernel))
  rw [show cSt aww4 9 20 = 10 from by kernel_rfl, show cSwB aww4 20 0 = false from by kernel_rfl, show cSwW aww4 20 0 2 = aww4 from by kernel_rfl] at h2
  exact h2)
 have H11 := Aside0.mk (show ∀ (W : World) (pw gc gw : Nat) (bk : Value), WAt W pw gc gw bk awC aww4 10 → Calls Try.prog 22 #[.pointer (some ⟨pw, 0, none⟩), .int .u64 1] W (fun e w' => e = .returned (.int .i64 2) ∧ WAt w' pw gc gw bk awC aww4 10 ∧ Touch (fun k => k = gc ∨ k = gw) W w') from fun W pw gc gw bk h => wl_Head pw gc gw bk awC aww4 10 1 1 2 W h (fun W => route_Bucket.calls 20 1 awC.f1 1 W (by decide +kernel)) (fun W => layout_Head.calls 20 awC.f0 awC.f1 awC.f2 awC.f3 awC.f4 1 2 W (by decide +kernel)))
 have H12 := Aside0.mk (show ∀ (W : World) (pw gc gw : Nat) (bk : Value), WAt W pw gc gw bk awC aww4 10 → Calls Try.prog 22 #[.pointer (some ⟨pw, 0, none⟩), .int .u64 2] W (fun e w' => e = .returned (.int .i64 1) ∧ WAt w' pw gc gw bk awC aww4 10 ∧ Touch (fun k => k = gc ∨ k = gw) W w') from fun W pw gc gw bk h => wl_Head pw gc gw bk awC aww4 10 2 0 1 W h (fun W => route_Bucket.calls 20 2 awC.f1 0 W (by decide +kernel)) (fun W => layout_Head.calls 20 awC.f0 awC.f1 awC.f2 awC.f3 awC.f4 0 1 W (by decide +kernel)))
 have HN0 := Aside0.mk (show ∀ W : World, Calls Try.prog 10 #[.agg #[.int .i64 2, .int .i64 2, .int .i64 1, .int .i64 5, .int .i64 3]] W (fun e w' => ∃ (pw gc gw : Nat) (bk : Value), e = .returned (.tuple #[.pointer (some ⟨pw, 0, none⟩), .int .i64 0]) ∧ WAt w' pw gc gw bk awC aww0 0 ∧ W.heap.size ≤ gc ∧ W.heap.size ≤ gw ∧ Below W.heap.size W w') from fun W => (wl_New_ok awC awOk 23 (fun W => layout_Len.calls 20 awC.f0 awC.f1 awC.f2 awC.f3 awC.f4 23 W (by decide +kernel)) W).mono (fun e w' h => by
  obtain ⟨pw, gc, gw, p, gt, go, gn, e1, hA, _, _, _, hg, hb⟩ := h
  exact ⟨pw, gc, gw, _, e1, hA, hg.2.1, hg.2.2, hb⟩))
 go_enter Try.func8, Try.ntmps8
 go_wp2_with (first | (go_at_call 30; (with_reducible refine (corrielaw08_small.calls 2 2 1 5 3 _ rfl).mono ?_); rintro e w1 ⟨rfl, hbk⟩; have n_ := Aside0.mk (below_step HB.out hbk); clear HB hbk; have HB := n_; clear n_) | (go_at_call 10; (with_reducible refine (HN0.out _).mono ?_); rintro e w2 ⟨pw, gc, gw, bk, rfl, hA, hg1, hg2, hbk⟩; have HA := Aside0.mk hA; have HGN := Aside0.mk (show w.heap.size ≤ gc ∧ w.heap.size ≤ gw from by have := HB.out.size; omega); have n_ := Aside0.mk (below_step HB.out hbk); clear HB hbk hA hg1 hg2; have HB := n_; clear n_) | (go_at_call 17; (with_reducible refine (H1.out _ pw gc gw bk HA.out).mono ?_); rintro e w3 ⟨rfl, hA, hT⟩; have n_ := Aside0.mk hA; clear HA; have HA := n_; clear n_ hA; have n_ := Aside0.mk (HB.out.trans (hT.below HB.out.size (fun k hk => by have := HGN.out; rcases hk with rfl | rfl <;> omega))); clear HB hT; have HB := n_; clear n_) | (go_at_call 24; (with_reducible refine (H2.out _ pw gc gw bk HA.out).mono ?_); rintro e w4 ⟨rfl, hA, hT⟩; have n_ := Aside0.mk hA; clear HA; have HA := n_; clear n_ hA; have n_ := Aside0.mk (HB.out.trans (hT.below HB.out.size (fun k hk => by have := HGN.out; rcases hk with rfl | rfl <;> omega))); clear HB hT; have HB := n_; clear n_) | (go_at_call 16; (with_reducible refine (H3.out _ pw gc gw bk HA.out).mono ?_); rintro e w5 ⟨rfl, hA, hT⟩; have n_ := Aside0.mk hA; clear HA; have HA := n_; clear n_ hA; have n_ := Aside0.mk (HB.out.trans (hT.below HB.out.size (fun k hk => by have := HGN.out; rcases hk with rfl | rfl <;> omega))); clear HB hT; have HB := n_; clear n_) | (go_at_call 15; (with_reducible refine (H4.out _ pw gc gw bk HA.out).mono ?_); rintro e w6 ⟨rfl, hA, hT⟩; have n_ := Aside0.mk hA; clear HA; have HA := n_; clear n_ hA; have n_ := Aside0.mk (HB.out.trans (hT.below HB.out.size (fun k hk => by have := HGN.out; rcases hk with rfl | rfl <;> omega))); clear HB hT; have HB := n_; clear n_) | (go_at_call 20; (with_reducible refine (H5.out _ pw gc gw bk HA.out).mono ?_); rintro e w7 ⟨rfl, hA, hT⟩; have n_ := Aside0.mk hA; clear HA; have HA := n_; clear n_ hA; have n_ := Aside0.mk (HB.out.trans (hT.below HB.out.size (fun k hk => by have := HGN.out; rcases hk with rfl | rfl <;> omega))); clear HB hT; have HB := n_; clear n_) | (go_at_call 20; (with_reducible refine (H6.out _ pw gc gw bk HA.out).mono ?_); rintro e w8 ⟨rfl, hA, hT⟩; have n_ := Aside0.mk hA; clear HA; have HA := n_; clear n_ hA; have n_ := Aside0.mk (HB.out.trans (hT.below HB.out.size (fun k hk => by have := HGN.out; rcases hk with rfl | rfl <;> omega))); clear HB hT; have HB := n_; clear n_) | (go_at_call 18; (with_reducible refine (H7.out _ pw gc gw bk HA.out).mono ?_); rintro e w9 ⟨rfl, hA, hT⟩; have n_ := Aside0.mk hA; clear HA; have HA := n_; clear n_ hA; have n_ := Aside0.mk (HB.out.trans (hT.below HB.out.size (fun k hk => by have := HGN.out; rcases hk with rfl | rfl <;> omega))); clear HB hT; have HB := n_; clear n_) | (go_at_call 18; (with_reducible refine (H8.out _ pw gc gw bk HA.out).mono ?_); rintro e w10 ⟨rfl, hA, hT⟩; have n_ := Aside0.mk hA; clear HA; have HA := n_; clear n_ hA; have n_ := Aside0.mk (HB.out.trans (hT.below HB.out.size (fun k hk => by have := HGN.out; rcases hk with rfl | rfl <;> omega))); clear HB hT; have HB := n_; clear n_) | (go_at_call 19; (with_reducible refine (H9.out _ pw gc gw bk HA.out).mono ?_); rintro e w11 ⟨rfl, hA, hT⟩; have n_ := Aside0.mk hA; clear HA; have HA := n_; clear n_ hA; have n_ := Aside0.mk (HB.out.trans (hT.below HB.out.size (fun k hk => by have := HGN.out; rcases hk with rfl | rfl <;> omega))); clear HB hT; have HB := n_; clear n_) | (go_at_call 16; (with_reducible refine (H10.out _ pw gc gw bk HA.out).mono ?_); rintro e w12 ⟨rfl, hA, hT⟩; have n_ := Aside0.mk hA; clear HA; have HA := n_; clear n_ hA; have n_ := Aside0.mk (HB.out.trans (hT.below HB.out.size (fun k hk => by have := HGN.out; rcases hk with rfl | rfl <;> omega))); clear HB hT; have HB := n_; clear n_; have cp_5 : w12.cell? ⟨pw, 5, none⟩ = some (.pointer (some ⟨gc, 0, none⟩)) := (blk_cell HA.out.w 5).trans rfl) | (go_at_call 14; (with_reducible refine (cel_Steps gc gw aww4 10 _ HA.out.m).mono ?_); rintro e wk ⟨rfl, hq⟩; have hq2 := hq.symm; subst hq2; clear hq) | (go_at_call 22; (with_reducible refine (H11.out _ pw gc gw bk HA.out).mono ?_); rintro e w13 ⟨rfl, hA, hT⟩; have n_ := Aside0.mk hA; clear HA; have HA := n_; clear n_ hA; have n_ := Aside0.mk (HB.out.trans (hT.below HB.out.size (fun k hk => by have := HGN.out; rcases hk with rfl | rfl <;> omega))); clear HB hT; have HB := n_; clear n_; clear cp_5) | (go_at_call 22; (with_reducible refine (H12.out _ pw gc gw bk HA.out).mono ?_); rintro e w14 ⟨rfl, hA, hT⟩; have n_ := Aside0.mk hA; clear HA; have HA := n_; clear n_ hA; have n_ := Aside0.mk (HB.out.trans (hT.below HB.out.size (fun k hk => by have := HGN.out; rcases hk with rfl | rfl <;> omega))); clear HB hT; have HB := n_; clear n_))
 go_ret
 exact ⟨by first | rfl | (simp [*]; done), HB.out⟩
theorem cst_in {n : Nat} {x : Int} (h0 : 0 ≤ x) (h1 : x < (n : Int)) (st : Int) : cSt (List.replicate n 0) st x = wrap64 (st + 1) := by
 unfold cSt cInb
 rw [if_pos (by simp only [List.length_replicate, decide_eq_true_eq]; exact ⟨h0, h1⟩)]
theorem cst_out {n : Nat} (st : Int) : cSt (List.replicate n 0) st (-1) = st := by
 unfold cSt cInb
 rw [if_neg (by simp)]


end Go.Proofs.Ytpcmoclohepdiag.PWorldActs
