-- Written by a program of this session: a variant of the print that takes proofs by hand (wip/tools/mkprint.py)
import Derived.Test.YtpcmoclohepdiaaPCellsLastx0
namespace Go.Proofs.Ytpcmoclohepdiaa.PCellsLast
open Go.RowKit Go.Proofs.YtpcmoclohepdiaaW.PrintWords Go.Proofs.YtpcmoclohepdiaaW.PrintLast Go.Proofs.YtpcmoclohepdiaaW.PrintMore
attribute [local go_sem] max2_int min2_int max_two min_two max_three min_three max_four min_four   -- for this text's walks alone
set_option linter.unusedVariables false
set_option linter.unusedSimpArgs false

-- NOT PRINTED: function 12 (cells_Cells_Len)

-- NOT PRINTED: function 32 (atomic_LoadUint64)

-- NOT PRINTED: function 21 (atomic_Uint64_Load)

-- NOT PRINTED: function 10 (cells_Cells_Peek)

-- NOT PRINTED: function 13 (cells_New)

-- NOT PRINTED: function 37 (atomic_AddInt64)

-- NOT PRINTED: function 33 (atomic_Int64_Add)

-- NOT PRINTED: function 22 (cells_Cells_step)

-- NOT PRINTED: function 15 (cells_Cells_Load)

-- NOT PRINTED: function 34 (atomic_LoadInt64)

-- NOT PRINTED: function 24 (atomic_Int64_Load)

-- NOT PRINTED: function 16 (cells_Cells_Steps)

-- NOT PRINTED: function 17 (cells_Cells_Swap)

-- NOT PRINTED: function 18 (cells_Cells_Store)

/-! ### corrielaw06_awake: function 8 (by hand) -/
structure CellsAt (w : World) (gc gw : Nat) (ws : List Int) (st : Int) : Prop where
  c : w.heap[gc]? = some (.cells #[.slice (some ⟨gw, 0, none⟩) ws.length ws.length, .int .i64 st] 59 (0, 0))
  w : w.heap[gw]? = some (.cells (ws.map (Value.int .u64)).toArray 54 (0, 0))
  ne : gc ≠ gw
structure Touch (S : Nat → Prop) (w w' : World) : Prop where
  os : w'.os = w.os
  tape : w'.tape = w.tape
  output : w'.output = w.output
  size : w.heap.size ≤ w'.heap.size
  block : ∀ k, k < w.heap.size → ¬ S k → w'.heap[k]? = w.heap[k]?
theorem Touch.refl (S : Nat → Prop) (w : World) : Touch S w w := ⟨rfl, rfl, rfl, Nat.le_refl _, fun _ _ _ => rfl⟩
theorem Touch.trans {S : Nat → Prop} {a b c : World} (h : Touch S a b) (k : Touch S b c) : Touch S a c :=
  ⟨k.os.trans h.os, k.tape.trans h.tape, k.output.trans h.output, Nat.le_trans h.size k.size, fun j hj hs => (k.block j (Nat.lt_of_lt_of_le hj h.size) hs).trans (h.block j hj hs)⟩
theorem Touch.mono {S T : Nat → Prop} {a b : World} (h : Touch S a b) (hst : ∀ k, S k → T k) : Touch T a b := ⟨h.os, h.tape, h.output, h.size, fun j hj hs => h.block j hj (fun h => hs (hst j h))⟩
theorem Touch.new {S : Nat → Prop} {w0 a b : World} (h : Touch (fun k => S k ∨ w0.heap.size ≤ k) a b) (h0 : Touch S w0 a) : Touch S w0 b :=
  ⟨h.os.trans h0.os, h.tape.trans h0.tape, h.output.trans h0.output, Nat.le_trans h0.size h.size, fun j hj hs => (h.block j (Nat.lt_of_lt_of_le hj h0.size) (fun h => h.elim hs (fun h => by omega))).trans (h0.block j hj hs)⟩
theorem Touch.of_below {S : Nat → Prop} {a b : World} (h : Below a.heap.size a b) : Touch S a b := ⟨h.os, h.tape, h.output, h.size, fun j hj _ => h.block j hj⟩
theorem Touch.below {S : Nat → Prop} {a b : World} {N : Nat} (h : Touch S a b) (hN : N ≤ a.heap.size) (hs : ∀ k, S k → N ≤ k) : Below N a b :=
  ⟨h.os, h.tape, h.output, h.size, fun k hk => h.block k (by omega) (fun h => by have := hs k h; omega)⟩
theorem Touch.alloc {S : Nat → Prop} {w0 w : World} (h : Touch S w0 w) (o : Obj) : Touch S w0 (w.alloc o) := h.trans (.of_below (below_alloc (Below.refl _ _) o))
theorem Touch.set {S : Nat → Prop} {w0 w : World} (h : Touch S w0 w) {g i : Nat} (hg : S g ∨ w0.heap.size ≤ g) (v : Value) : Touch S w0 (w.setCell ⟨g, i, none⟩ v) :=
  ⟨h.os, h.tape, h.output, Nat.le_trans h.size (by simp), fun k hk hs => (Below.heap_setCell w ⟨g, i, none⟩ v k (fun e => by subst e; exact hg.elim hs (fun h => by omega))).trans (h.block k hk hs)⟩
theorem cel_put {w : World} {g i : Nat} {cs : Array Value} {t : TypeId} {fr : Nat × Nat} (h : w.heap[g]? = some (.cells cs t fr)) (v : Value) : (w.setCell ⟨g, i, none⟩ v).heap[g]? = some (.cells (cs.setIfInBounds i v) t fr) := by
  rw [setCell_eq_setRow w g i cs t fr v h]
  exact setRow_heap w g cs _ t fr h
theorem cel_far {w : World} {g k i : Nat} {o : Obj} (h : w.heap[k]? = some o) (hne : k ≠ g) (v : Value) : (w.setCell ⟨g, i, none⟩ v).heap[k]? = some o := (Below.heap_setCell w ⟨g, i, none⟩ v k hne).trans h
theorem CellsAt.far {w : World} {gc gw : Nat} {ws : List Int} {st : Int} (h : CellsAt w gc gw ws st) {g i : Nat} (h1 : g ≠ gc) (h2 : g ≠ gw) (v : Value) : CellsAt (w.setCell ⟨g, i, none⟩ v) gc gw ws st := ⟨cel_far h.c (Ne.symm h1) v, cel_far h.w (Ne.symm h2) v, h.ne⟩
theorem CellsAt.step {w : World} {gc gw : Nat} {ws : List Int} {st : Int} (h : CellsAt w gc gw ws st) (s : Int) : CellsAt (w.setCell ⟨gc, 1, none⟩ (.int .i64 s)) gc gw ws s := ⟨cel_put h.c _, cel_far h.w (Ne.symm h.ne) _, h.ne⟩
theorem CellsAt.put {w : World} {gc gw : Nat} {ws : List Int} {st : Int} (h : CellsAt w gc gw ws st) (i : Nat) (v : Int) : CellsAt (w.setCell ⟨gw, i, none⟩ (.int .u64 v)) gc gw (ws.set i v) st := by
  refine ⟨?_, ?_, h.ne⟩
  · rw [List.length_set]
    exact cel_far h.c h.ne _
  · rw [cel_put h.w (.int .u64 v)]
    simp [List.map_set]
theorem CellsAt.below {w w1 : World} {gc gw : Nat} {ws : List Int} {st : Int} (h : CellsAt w gc gw ws st) (hb : Below w.heap.size w w1) : CellsAt w1 gc gw ws st := ⟨blk_below h.c hb, blk_below h.w hb, h.ne⟩
theorem CellsAt.lt {w : World} {gc gw : Nat} {ws : List Int} {st : Int} (h : CellsAt w gc gw ws st) : gc < w.heap.size ∧ gw < w.heap.size := ⟨blk_lt h.c, blk_lt h.w⟩
theorem CellsAt.slice {w : World} {gc gw : Nat} {ws : List Int} {st : Int} (h : CellsAt w gc gw ws st) : w.cell? ⟨gc, 0, none⟩ = some (.slice (some ⟨gw, 0, none⟩) ws.length ws.length) := (blk_cell h.c 0).trans rfl
theorem CellsAt.steps {w : World} {gc gw : Nat} {ws : List Int} {st : Int} (h : CellsAt w gc gw ws st) : w.cell? ⟨gc, 1, none⟩ = some (.int .i64 st) := (blk_cell h.c 1).trans rfl
theorem CellsAt.word {w : World} {gc gw : Nat} {ws : List Int} {st : Int} (h : CellsAt w gc gw ws st) (i : Nat) (hi : i < ws.length) : w.cell? ⟨gw, i, none⟩ = some (.int .u64 (ws.getD i 0)) := by
  rw [blk_cell h.w i]
  simp [List.getD, hi]
theorem CellsAt.frz {w : World} {gc gw : Nat} {ws : List Int} {st : Int} (h : CellsAt w gc gw ws st) (i : Nat) : w.frozen? ⟨gc, i, none⟩ = false ∧ w.frozen? ⟨gw, i, none⟩ = false := by
  constructor
  · simp [World.frozen?, h.c]
  · simp [World.frozen?, h.w]
set_option maxHeartbeats 8000000 in
set_option maxRecDepth 100000 in
theorem at_uload (g i : Nat) (x : Int) (w : World) (h0 : w.cell? ⟨g, i, none⟩ = some (.int .u64 x)) :
    Calls Try.prog 21 #[.pointer (some ⟨g, i, none⟩)] w fun e w' => e = .returned (.int .u64 x) ∧ w' = w := by
  have hx := run_call_load (P := Try.prog) Try.func32 (by kernel_rfl) (by kernel_rfl) (by kernel_rfl) .u64 (by kernel_rfl) h0
  go_enter Try.func21, Try.ntmps21
  go_wp2
  go_ret
  exact ⟨rfl, rfl⟩
set_option maxHeartbeats 8000000 in
set_option maxRecDepth 100000 in
theorem at_iload (g i : Nat) (x : Int) (w : World) (h0 : w.cell? ⟨g, i, none⟩ = some (.int .i64 x)) :
    Calls Try.prog 24 #[.pointer (some ⟨g, i, none⟩)] w fun e w' => e = .returned (.int .i64 x) ∧ w' = w := by
  have hx := run_call_load (P := Try.prog) Try.func34 (by kernel_rfl) (by kernel_rfl) (by kernel_rfl) .i64 (by kernel_rfl) h0
  go_enter Try.func24, Try.ntmps24
  go_wp2
  go_ret
  exact ⟨rfl, rfl⟩
set_option maxHeartbeats 8000000 in
set_option maxRecDepth 100000 in
theorem at_ustore (g i : Nat) (x y : Int) (w : World) (h0 : w.cell? ⟨g, i, none⟩ = some (.int .u64 x)) (f0 : w.frozen? ⟨g, i, none⟩ = false) :
    Calls Try.prog 28 #[.pointer (some ⟨g, i, none⟩), .int .u64 y] w fun e w' => e = .returned (.tuple #[]) ∧ w' = w.setCell ⟨g, i, none⟩ (.int .u64 y) := by
  have hx := run_call_store (P := Try.prog) Try.func36 (by kernel_rfl) (by kernel_rfl) (by kernel_rfl) (by kernel_rfl) (k := .u64) (y := y) h0 f0
  go_enter Try.func28, Try.ntmps28
  go_wp2
  go_end0
  exact ⟨rfl, rfl⟩
set_option maxHeartbeats 8000000 in
set_option maxRecDepth 100000 in
theorem at_ucas_hit (g i : Nat) (x y : Int) (w : World) (h0 : w.cell? ⟨g, i, none⟩ = some (.int .u64 x)) (f0 : w.frozen? ⟨g, i, none⟩ = false) :
    Calls Try.prog 26 #[.pointer (some ⟨g, i, none⟩), .int .u64 x, .int .u64 y] w fun e w' => e = .returned (.bool true) ∧ w' = w.setCell ⟨g, i, none⟩ (.int .u64 y) := by
  have hx := run_call_cas_hit (P := Try.prog) Try.func35 (by kernel_rfl) (by kernel_rfl) (by kernel_rfl) .u64 (by kernel_rfl) (y := y) h0 f0
  go_enter Try.func26, Try.ntmps26
  go_wp2
  go_ret
  exact ⟨rfl, rfl⟩
set_option maxHeartbeats 8000000 in
set_option maxRecDepth 100000 in
theorem at_ucas_miss (g i : Nat) (x o y : Int) (w : World) (h0 : w.cell? ⟨g, i, none⟩ = some (.int .u64 x)) (f0 : w.frozen? ⟨g, i, none⟩ = false) (hne : ¬ x = o) :
    Calls Try.prog 26 #[.pointer (some ⟨g, i, none⟩), .int .u64 o, .int .u64 y] w fun e w' => e = .returned (.bool false) ∧ w' = w := by
  have hx := run_call_cas_miss (P := Try.prog) Try.func35 (by kernel_rfl) (by kernel_rfl) (by kernel_rfl) .u64 (by kernel_rfl) (o := o) (y := y) h0 f0 hne
  go_enter Try.func26, Try.ntmps26
  go_wp2
  go_ret
  exact ⟨rfl, rfl⟩
set_option maxHeartbeats 8000000 in
set_option maxRecDepth 100000 in
theorem at_iadd (g i : Nat) (x : Int) (w : World) (h0 : w.cell? ⟨g, i, none⟩ = some (.int .i64 x)) (f0 : w.frozen? ⟨g, i, none⟩ = false) :
    Calls Try.prog 33 #[.pointer (some ⟨g, i, none⟩), .int .i64 1] w fun e w' => e = .returned (.int .i64 (wrap64 (x + 1))) ∧ w' = w.setCell ⟨g, i, none⟩ (.int .i64 (wrap64 (x + 1))) := by
  have hx := run_call_add (P := Try.prog) Try.func37 (by kernel_rfl) (by kernel_rfl) (by kernel_rfl) .i64 (by kernel_rfl) (y := 1) (s := wrap64 (x + 1)) h0 f0 (by simp [go_sem, wrap64, IntKind.wrap_i64])
  go_enter Try.func33, Try.ntmps33
  go_wp2
  go_ret
  exact ⟨rfl, rfl⟩
def cInb (ws : List Int) (at_ : Int) : Bool := decide (0 ≤ at_ ∧ at_ < (ws.length : Int))
def cRd (ws : List Int) (at_ : Int) : Int := if cInb ws at_ = true then ws.getD at_.toNat 0 else 0
def cSt (ws : List Int) (st at_ : Int) : Int := if cInb ws at_ = true then wrap64 (st + 1) else st
def cPutW (ws : List Int) (at_ w : Int) : List Int := if cInb ws at_ = true then ws.set at_.toNat w else ws
def cSwB (ws : List Int) (at_ old : Int) : Bool := cInb ws at_ && decide (cRd ws at_ = old)
def cSwW (ws : List Int) (at_ old w : Int) : List Int := if cSwB ws at_ old = true then ws.set at_.toNat w else ws
theorem cInb_len {ws ws' : List Int} (h : ws.length = ws'.length) (at_ : Int) : cInb ws at_ = cInb ws' at_ := by unfold cInb; rw [h]
set_option maxHeartbeats 8000000 in
set_option maxRecDepth 100000 in
theorem cel_Len (gc gw : Nat) (ws : List Int) (st : Int) (W : World) (h : CellsAt W gc gw ws st) :
    Calls Try.prog 12 #[.pointer (some ⟨gc, 0, none⟩)] W fun e w' => e = .returned (.int .i64 ws.length) ∧ w' = W := by
  have h0 := h.slice
  go_enter Try.func12, Try.ntmps12
  go_wp2
  go_ret
  exact ⟨rfl, rfl⟩
set_option maxHeartbeats 8000000 in
set_option maxRecDepth 100000 in
theorem cel_Len_nil (W : World) :
    Calls Try.prog 12 #[.pointer none] W fun e w' => e = .returned (.int .i64 0) ∧ w' = W := by
  go_enter Try.func12, Try.ntmps12
  go_wp2
  go_ret
  exact ⟨rfl, rfl⟩
set_option maxHeartbeats 8000000 in
set_option maxRecDepth 100000 in
theorem cel_Steps (gc gw : Nat) (ws : List Int) (st : Int) (W : World) (h : CellsAt W gc gw ws st) :
    Calls Try.prog 16 #[.pointer (some ⟨gc, 0, none⟩)] W fun e w' => e = .returned (.int .i64 st) ∧ w' = W := by
  have h1 := h.steps
  go_enter Try.func16, Try.ntmps16
  go_wp2_with (first | (go_at_call 24; (with_reducible refine (at_iload gc 1 st _ h1).mono ?_); rintro e w1 ⟨rfl, rfl⟩))
  go_ret
  exact ⟨rfl, rfl⟩
set_option maxHeartbeats 8000000 in
set_option maxRecDepth 100000 in
theorem cel_Steps_nil (W : World) :
    Calls Try.prog 16 #[.pointer none] W fun e w' => e = .returned (.int .i64 0) ∧ w' = W := by
  go_enter Try.func16, Try.ntmps16
  go_wp2
  go_ret
  exact ⟨rfl, rfl⟩
set_option maxHeartbeats 8000000 in
set_option maxRecDepth 100000 in
theorem cel_Peek (gc gw : Nat) (ws : List Int) (st : Int) (at_ : Int) (W : World) (h : CellsAt W gc gw ws st) :
    Calls Try.prog 10 #[.pointer (some ⟨gc, 0, none⟩), .int .i64 at_] W fun e w' => e = .returned (.int .u64 (cRd ws at_)) ∧ w' = W := by
  have h0 := h.slice
  by_cases c1 : at_ < 0
  · have q : cInb ws at_ = false := decide_eq_false (by omega)
    have e0 : cRd ws at_ = 0 := by unfold cRd; rw [q]; rfl
    rw [e0]
    go_enter Try.func10, Try.ntmps10
    go_wp2_with (first | (go_at_call 12; (with_reducible refine (cel_Len gc gw ws st _ h).mono ?_); rintro e w1 ⟨rfl, rfl⟩))
    go_ret
    exact ⟨rfl, rfl⟩
  · by_cases c2 : at_ < (ws.length : Int)
    · have q : cInb ws at_ = true := decide_eq_true (by omega)
      obtain ⟨i, rfl⟩ : ∃ i : Nat, at_ = (i : Int) := ⟨at_.toNat, by omega⟩
      have hi : i < ws.length := by omega
      have e0 : cRd ws (i : Int) = ws.getD i 0 := by unfold cRd; rw [q]; rfl
      rw [e0]
      have h2 := h.word i hi
      generalize ws.getD i 0 = x at h2 ⊢
      go_enter Try.func10, Try.ntmps10
      go_wp2_with (first | (go_at_call 12; (with_reducible refine (cel_Len gc gw ws st _ h).mono ?_); rintro e w1 ⟨rfl, rfl⟩) | (go_at_call 21; (with_reducible refine (at_uload gw i x _ h2).mono ?_); rintro e w1 ⟨rfl, rfl⟩))
      go_ret
      exact ⟨rfl, rfl⟩
    · have q : cInb ws at_ = false := decide_eq_false (by omega)
      have e0 : cRd ws at_ = 0 := by unfold cRd; rw [q]; rfl
      rw [e0]
      go_enter Try.func10, Try.ntmps10
      go_wp2_with (first | (go_at_call 12; (with_reducible refine (cel_Len gc gw ws st _ h).mono ?_); rintro e w1 ⟨rfl, rfl⟩))
      go_ret
      exact ⟨rfl, rfl⟩
set_option maxHeartbeats 8000000 in
set_option maxRecDepth 100000 in
theorem cel_Peek_nil (at_ : Int) (W : World) :
    Calls Try.prog 10 #[.pointer none, .int .i64 at_] W fun e w' => e = .returned (.int .u64 0) ∧ w' = W := by
  by_cases c1 : at_ < 0
  · skip
    go_enter Try.func10, Try.ntmps10
    go_wp2_with (first | (go_at_call 12; (with_reducible refine (cel_Len_nil _).mono ?_); rintro e w1 ⟨rfl, rfl⟩))
    go_ret
    exact ⟨rfl, rfl⟩
  · skip
    go_enter Try.func10, Try.ntmps10
    go_wp2_with (first | (go_at_call 12; (with_reducible refine (cel_Len_nil _).mono ?_); rintro e w1 ⟨rfl, rfl⟩))
    go_ret
    exact ⟨rfl, rfl⟩
set_option maxHeartbeats 8000000 in
set_option maxRecDepth 100000 in
theorem cel_L1 (gw i gb : Nat) (x : Int) (v0 : Value) (W : World) (h0 : W.cell? ⟨gw, i, none⟩ = some (.int .u64 x)) (hb : W.heap[gb]? = some (.cells #[v0] 30 (0, 0))) :
    Calls Try.prog 23 #[.pointer (some ⟨gw, i, none⟩), .pointer (some ⟨gb, 0, none⟩)] W fun e w' => e = .returned (.tuple #[]) ∧ w' = W.setCell ⟨gb, 0, none⟩ (.int .u64 x) := by
  have c0 : W.cell? ⟨gb, 0, none⟩ = some v0 := (blk_cell hb 0).trans rfl
  have f0 : W.frozen? ⟨gb, 0, none⟩ = false := by simp [World.frozen?, hb]
  have HBK := Aside0.mk hb
  clear hb
  go_enter Try.func23, Try.ntmps23
  go_wp2_with (first | (go_at_call 21; (with_reducible refine (at_uload gw i x _ h0).mono ?_); rintro e w1 ⟨rfl, rfl⟩))
  go_end0
  exact ⟨rfl, rfl⟩
set_option maxHeartbeats 8000000 in
set_option maxRecDepth 100000 in
theorem cel_S1 (gw i gb : Nat) (x y : Int) (W : World) (h0 : W.cell? ⟨gw, i, none⟩ = some (.int .u64 x)) (f0 : W.frozen? ⟨gw, i, none⟩ = false) (hb : W.heap[gb]? = some (.cells #[.int .u64 y] 30 (0, 0))) :
    Calls Try.prog 27 #[.pointer (some ⟨gw, i, none⟩), .pointer (some ⟨gb, 0, none⟩)] W fun e w' => e = .returned (.tuple #[]) ∧ w' = W.setCell ⟨gw, i, none⟩ (.int .u64 y) := by
  have c0 : W.cell? ⟨gb, 0, none⟩ = some (.int .u64 y) := (blk_cell hb 0).trans rfl
  have HBK := Aside0.mk hb
  clear hb
  go_enter Try.func27, Try.ntmps27
  go_wp2_with (first | (go_at_call 28; (with_reducible refine (at_ustore gw i x y _ h0 f0).mono ?_); rintro e w1 ⟨rfl, rfl⟩))
  go_end0
  exact ⟨rfl, rfl⟩
set_option maxHeartbeats 8000000 in
set_option maxRecDepth 100000 in
theorem cel_W1_hit (gw i go gn gd : Nat) (x old y : Int) (W : World) (h0 : W.cell? ⟨gw, i, none⟩ = some (.int .u64 x)) (f0 : W.frozen? ⟨gw, i, none⟩ = false) (ho : W.heap[go]? = some (.cells #[.int .u64 old] 30 (0, 0))) (hn : W.heap[gn]? = some (.cells #[.int .u64 y] 30 (0, 0))) (hd : W.heap[gd]? = some (.cells #[.bool false] 4 (0, 0))) (hne : x = old) (hg : ¬ gd = gw) :
    Calls Try.prog 25 #[.pointer (some ⟨gw, i, none⟩), .pointer (some ⟨go, 0, none⟩), .pointer (some ⟨gn, 0, none⟩), .pointer (some ⟨gd, 0, none⟩)] W fun e w' => e = .returned (.tuple #[]) ∧ w' = (W.setCell ⟨gw, i, none⟩ (.int .u64 y)).setCell ⟨gd, 0, none⟩ (.bool true) := by
  subst hne
  have c0 : W.cell? ⟨go, 0, none⟩ = some (.int .u64 x) := (blk_cell ho 0).trans rfl
  have c1 : W.cell? ⟨gn, 0, none⟩ = some (.int .u64 y) := (blk_cell hn 0).trans rfl
  have c2 : W.cell? ⟨gd, 0, none⟩ = some (.bool false) := (blk_cell hd 0).trans rfl
  have f2 : W.frozen? ⟨gd, 0, none⟩ = false := by simp [World.frozen?, hd]
  have hg2 : ¬ gw = gd := fun e => hg e.symm
  clear ho hn hd
  go_enter Try.func25, Try.ntmps25
  go_wp2_with (first | (go_at_call 26; (with_reducible refine (at_ucas_hit gw i x y _ h0 f0).mono ?_); rintro e w1 ⟨rfl, rfl⟩))
  go_end0
  exact ⟨rfl, rfl⟩
set_option maxHeartbeats 8000000 in
set_option maxRecDepth 100000 in
theorem cel_W1_miss (gw i go gn gd : Nat) (x old y : Int) (W : World) (h0 : W.cell? ⟨gw, i, none⟩ = some (.int .u64 x)) (f0 : W.frozen? ⟨gw, i, none⟩ = false) (ho : W.heap[go]? = some (.cells #[.int .u64 old] 30 (0, 0))) (hn : W.heap[gn]? = some (.cells #[.int .u64 y] 30 (0, 0))) (hd : W.heap[gd]? = some (.cells #[.bool false] 4 (0, 0))) (hne : ¬ x = old) (hg : ¬ gd = gw) :
    Calls Try.prog 25 #[.pointer (some ⟨gw, i, none⟩), .pointer (some ⟨go, 0, none⟩), .pointer (some ⟨gn, 0, none⟩), .pointer (some ⟨gd, 0, none⟩)] W fun e w' => e = .returned (.tuple #[]) ∧ w' = W.setCell ⟨gd, 0, none⟩ (.bool false) := by
  have c0 : W.cell? ⟨go, 0, none⟩ = some (.int .u64 old) := (blk_cell ho 0).trans rfl
  have c1 : W.cell? ⟨gn, 0, none⟩ = some (.int .u64 y) := (blk_cell hn 0).trans rfl
  have c2 : W.cell? ⟨gd, 0, none⟩ = some (.bool false) := (blk_cell hd 0).trans rfl
  have f2 : W.frozen? ⟨gd, 0, none⟩ = false := by simp [World.frozen?, hd]
  have hg2 : ¬ gw = gd := fun e => hg e.symm
  clear ho hn hd
  go_enter Try.func25, Try.ntmps25
  go_wp2_with (first | (go_at_call 26; (with_reducible refine (at_ucas_miss gw i x old y _ h0 f0 hne).mono ?_); rintro e w1 ⟨rfl, rfl⟩))
  go_end0
  exact ⟨rfl, rfl⟩
set_option maxHeartbeats 8000000 in
set_option maxRecDepth 100000 in
theorem cel_step_out (gc gw : Nat) (ws : List Int) (st : Int) (at_ : Int) (f : Value) (W : World) (h : CellsAt W gc gw ws st) (q : cInb ws at_ = false) :
    Calls Try.prog 22 #[.pointer (some ⟨gc, 0, none⟩), .int .i64 at_, f] W fun e w' => e = .returned (.tuple #[]) ∧ w' = W := by
  have q1 := of_decide_eq_false q
  by_cases c1 : at_ < 0
  · clear q q1
    go_enter Try.func22, Try.ntmps22
    go_wp2_with (first | (go_at_call 12; (with_reducible refine (cel_Len gc gw ws st _ h).mono ?_); rintro e w1 ⟨rfl, rfl⟩))
    refine bodyPost_ret (results_none rfl _ _ _) rfl ?_
    exact ⟨rfl, rfl⟩
  · have c2 : (ws.length : Int) ≤ at_ := by omega
    clear q q1
    go_enter Try.func22, Try.ntmps22
    go_wp2_with (first | (go_at_call 12; (with_reducible refine (cel_Len gc gw ws st _ h).mono ?_); rintro e w1 ⟨rfl, rfl⟩))
    refine bodyPost_ret (results_none rfl _ _ _) rfl ?_
    exact ⟨rfl, rfl⟩
set_option maxHeartbeats 8000000 in
set_option maxRecDepth 100000 in
theorem cel_step_nil (at_ : Int) (f : Value) (W : World) :
    Calls Try.prog 22 #[.pointer none, .int .i64 at_, f] W fun e w' => e = .returned (.tuple #[]) ∧ w' = W := by
  by_cases c1 : at_ < 0
  · skip
    go_enter Try.func22, Try.ntmps22
    go_wp2_with (first | (go_at_call 12; (with_reducible refine (cel_Len_nil _).mono ?_); rintro e w1 ⟨rfl, rfl⟩))
    refine bodyPost_ret (results_none rfl _ _ _) rfl ?_
    exact ⟨rfl, rfl⟩
  · skip
    go_enter Try.func22, Try.ntmps22
    go_wp2_with (first | (go_at_call 12; (with_reducible refine (cel_Len_nil _).mono ?_); rintro e w1 ⟨rfl, rfl⟩))
    refine bodyPost_ret (results_none rfl _ _ _) rfl ?_
    exact ⟨rfl, rfl⟩
set_option maxHeartbeats 8000000 in
set_option maxRecDepth 100000 in
theorem cel_step_load (gc gw : Nat) (ws : List Int) (st : Int) (i : Nat) (gb : Nat) (v0 : Value) (W : World) (h : CellsAt W gc gw ws st) (hi : i < ws.length) (hb : W.heap[gb]? = some (.cells #[v0] 30 (0, 0))) (hg1 : gb ≠ gc) (hg2 : gb ≠ gw) :
    Calls Try.prog 22 #[.pointer (some ⟨gc, 0, none⟩), .int .i64 (i : Int), .func (.func 23) #[] #[.pointer (some ⟨gb, 0, none⟩)]] W fun e w' => e = .returned (.tuple #[]) ∧ w' = (W.setCell ⟨gb, 0, none⟩ (.int .u64 (ws.getD i 0))).setCell ⟨gc, 1, none⟩ (.int .i64 (wrap64 (st + 1))) := by
  have c2 : (i : Int) < (ws.length : Int) := by omega
  have h0 := h.slice
  have h1 := h.steps
  have h2 := h.word i hi
  have hf := (h.frz i).2
  have hcon := cel_L1 gw i gb (ws.getD i 0) v0 W h2 hb
  obtain ⟨W1, hW1⟩ : ∃ W1, W.setCell ⟨gb, 0, none⟩ (.int .u64 (ws.getD i 0)) = W1 := ⟨_, rfl⟩
  rw [hW1] at hcon ⊢
  have hA : CellsAt W1 gc gw ws st := by rw [← hW1]; exact h.far hg1 hg2 _
  have k0 := hA.slice
  have k1 := hA.steps
  have kf := (hA.frz 1).1
  have HCON := Aside0.mk hcon
  clear hcon hW1 hA
  go_enter Try.func22, Try.ntmps22
  go_wp2_with (first | (go_at_call 12; (with_reducible refine (cel_Len gc gw ws st _ h).mono ?_); rintro e w1 ⟨rfl, rfl⟩) | (go_at_call 23; (with_reducible refine HCON.out.mono ?_); rintro e w1 ⟨rfl, rfl⟩) | (go_at_call 33; (with_reducible refine (at_iadd gc 1 st _ k1 kf).mono ?_); rintro e w1 ⟨rfl, rfl⟩))
  go_end0
  exact ⟨rfl, rfl⟩
set_option maxHeartbeats 8000000 in
set_option maxRecDepth 100000 in
theorem cel_step_store (gc gw : Nat) (ws : List Int) (st : Int) (i : Nat) (gb : Nat) (y : Int) (W : World) (h : CellsAt W gc gw ws st) (hi : i < ws.length) (hb : W.heap[gb]? = some (.cells #[.int .u64 y] 30 (0, 0))) :
    Calls Try.prog 22 #[.pointer (some ⟨gc, 0, none⟩), .int .i64 (i : Int), .func (.func 27) #[] #[.pointer (some ⟨gb, 0, none⟩)]] W fun e w' => e = .returned (.tuple #[]) ∧ w' = (W.setCell ⟨gw, i, none⟩ (.int .u64 y)).setCell ⟨gc, 1, none⟩ (.int .i64 (wrap64 (st + 1))) := by
  have c2 : (i : Int) < (ws.length : Int) := by omega
  have h0 := h.slice
  have h1 := h.steps
  have h2 := h.word i hi
  have hf := (h.frz i).2
  have hcon := cel_S1 gw i gb (ws.getD i 0) y W h2 hf hb
  obtain ⟨W1, hW1⟩ : ∃ W1, W.setCell ⟨gw, i, none⟩ (.int .u64 y) = W1 := ⟨_, rfl⟩
  rw [hW1] at hcon ⊢
  have hA : CellsAt W1 gc gw (ws.set i y) st := by rw [← hW1]; exact h.put i y
  have k0 := hA.slice
  have k1 := hA.steps
  have kf := (hA.frz 1).1
  have HCON := Aside0.mk hcon
  clear hcon hW1 hA
  go_enter Try.func22, Try.ntmps22
  go_wp2_with (first | (go_at_call 12; (with_reducible refine (cel_Len gc gw ws st _ h).mono ?_); rintro e w1 ⟨rfl, rfl⟩) | (go_at_call 27; (with_reducible refine HCON.out.mono ?_); rintro e w1 ⟨rfl, rfl⟩) | (go_at_call 33; (with_reducible refine (at_iadd gc 1 st _ k1 kf).mono ?_); rintro e w1 ⟨rfl, rfl⟩))
  go_end0
  exact ⟨rfl, rfl⟩
set_option maxHeartbeats 8000000 in
set_option maxRecDepth 100000 in
theorem cel_step_hit (gc gw : Nat) (ws : List Int) (st : Int) (i : Nat) (go gn gd : Nat) (old y : Int) (W : World) (h : CellsAt W gc gw ws st) (hi : i < ws.length) (ho : W.heap[go]? = some (.cells #[.int .u64 old] 30 (0, 0))) (hn : W.heap[gn]? = some (.cells #[.int .u64 y] 30 (0, 0))) (hd : W.heap[gd]? = some (.cells #[.bool false] 4 (0, 0))) (hg1 : gd ≠ gc) (hg2 : gd ≠ gw) (hne : ws.getD i 0 = old) :
    Calls Try.prog 22 #[.pointer (some ⟨gc, 0, none⟩), .int .i64 (i : Int), .func (.func 25) #[] #[.pointer (some ⟨go, 0, none⟩), .pointer (some ⟨gn, 0, none⟩), .pointer (some ⟨gd, 0, none⟩)]] W fun e w' => e = .returned (.tuple #[]) ∧ w' = ((W.setCell ⟨gw, i, none⟩ (.int .u64 y)).setCell ⟨gd, 0, none⟩ (.bool true)).setCell ⟨gc, 1, none⟩ (.int .i64 (wrap64 (st + 1))) := by
  have c2 : (i : Int) < (ws.length : Int) := by omega
  have h0 := h.slice
  have h1 := h.steps
  have h2 := h.word i hi
  have hf := (h.frz i).2
  have hcon := cel_W1_hit gw i go gn gd (ws.getD i 0) old y W h2 hf ho hn hd hne hg2
  obtain ⟨W1, hW1⟩ : ∃ W1, (W.setCell ⟨gw, i, none⟩ (.int .u64 y)).setCell ⟨gd, 0, none⟩ (.bool true) = W1 := ⟨_, rfl⟩
  rw [hW1] at hcon ⊢
  have hA : CellsAt W1 gc gw (ws.set i y) st := by rw [← hW1]; exact (h.put i y).far hg1 hg2 _
  have k0 := hA.slice
  have k1 := hA.steps
  have kf := (hA.frz 1).1
  have HCON := Aside0.mk hcon
  clear hcon hW1 hA
  go_enter Try.func22, Try.ntmps22
  go_wp2_with (first | (go_at_call 12; (with_reducible refine (cel_Len gc gw ws st _ h).mono ?_); rintro e w1 ⟨rfl, rfl⟩) | (go_at_call 25; (with_reducible refine HCON.out.mono ?_); rintro e w1 ⟨rfl, rfl⟩) | (go_at_call 33; (with_reducible refine (at_iadd gc 1 st _ k1 kf).mono ?_); rintro e w1 ⟨rfl, rfl⟩))
  go_end0
  exact ⟨rfl, rfl⟩
set_option maxHeartbeats 8000000 in
set_option maxRecDepth 100000 in
theorem cel_step_miss (gc gw : Nat) (ws : List Int) (st : Int) (i : Nat) (go gn gd : Nat) (old y : Int) (W : World) (h : CellsAt W gc gw ws st) (hi : i < ws.length) (ho : W.heap[go]? = some (.cells #[.int .u64 old] 30 (0, 0))) (hn : W.heap[gn]? = some (.cells #[.int .u64 y] 30 (0, 0))) (hd : W.heap[gd]? = some (.cells #[.bool false] 4 (0, 0))) (hg1 : gd ≠ gc) (hg2 : gd ≠ gw) (hne : ¬ ws.getD i 0 = old) :
    Calls Try.prog 22 #[.pointer (some ⟨gc, 0, none⟩), .int .i64 (i : Int), .func (.func 25) #[] #[.pointer (some ⟨go, 0, none⟩), .pointer (some ⟨gn, 0, none⟩), .pointer (some ⟨gd, 0, none⟩)]] W fun e w' => e = .returned (.tuple #[]) ∧ w' = (W.setCell ⟨gd, 0, none⟩ (.bool false)).setCell ⟨gc, 1, none⟩ (.int .i64 (wrap64 (st + 1))) := by
  have c2 : (i : Int) < (ws.length : Int) := by omega
  have h0 := h.slice
  have h1 := h.steps
  have h2 := h.word i hi
  have hf := (h.frz i).2
  have hcon := cel_W1_miss gw i go gn gd (ws.getD i 0) old y W h2 hf ho hn hd hne hg2
  obtain ⟨W1, hW1⟩ : ∃ W1, W.setCell ⟨gd, 0, none⟩ (.bool false) = W1 := ⟨_, rfl⟩
  rw [hW1] at hcon ⊢
  have hA : CellsAt W1 gc gw ws st := by rw [← hW1]; exact h.far hg1 hg2 _
  have k0 := hA.slice
  have k1 := hA.steps
  have kf := (hA.frz 1).1
  have HCON := Aside0.mk hcon
  clear hcon hW1 hA
  go_enter Try.func22, Try.ntmps22
  go_wp2_with (first | (go_at_call 12; (with_reducible refine (cel_Len gc gw ws st _ h).mono ?_); rintro e w1 ⟨rfl, rfl⟩) | (go_at_call 25; (with_reducible refine HCON.out.mono ?_); rintro e w1 ⟨rfl, rfl⟩) | (go_at_call 33; (with_reducible refine (at_iadd gc 1 st _ k1 kf).mono ?_); rintro e w1 ⟨rfl, rfl⟩))
  go_end0
  exact ⟨rfl, rfl⟩
set_option maxHeartbeats 8000000 in
set_option maxRecDepth 100000 in
theorem cel_Load (gc gw : Nat) (ws : List Int) (st : Int) (at_ : Int) (W : World) (h : CellsAt W gc gw ws st) :
    Calls Try.prog 15 #[.pointer (some ⟨gc, 0, none⟩), .int .i64 at_] W fun e w' => e = .returned (.int .u64 (cRd ws at_)) ∧ CellsAt w' gc gw (ws) (cSt ws st at_) ∧ Touch (fun k => k = gc ∨ k = gw) W w' := by
  have hmf : ∀ (fn : Fn) (first cap : Array Value) (w : World), (Instr.makeFunc fn first cap).run Try.prog w = .ok (.func fn first cap) w := fun _ _ _ _ => rfl
  have n1 : W.heap.size ≠ gc := by have := h.lt; omega
  have n2 : W.heap.size ≠ gw := by have := h.lt; omega
  cases q : cInb ws at_ with
  | false =>
    have e0 : cRd ws at_ = 0 := by unfold cRd; rw [q]; rfl
    have e1 : cSt ws st at_ = st := by unfold cSt; rw [q]; rfl
    rw [e0, e1]
    go_enter Try.func15, Try.ntmps15
    go_wp2_with (first | (go_at_call 22; (with_reducible refine (cel_step_out gc gw ws st at_ _ _ (h.below (below_alloc (Below.refl _ _) _)) q).mono ?_); rintro e w1 ⟨rfl, hw⟩; have hA := Aside0.mk (show CellsAt w1 gc gw ws st from by rw [hw]; exact (h.below (below_alloc (Below.refl _ _) _))); have hB : w1.cell? ⟨W.heap.size, 0, none⟩ = some (.int .u64 0) := (by rw [hw]; exact (blk_cell (blk_new W _) 0).trans rfl); have hT := Aside0.mk (show Touch (fun k => k = gc ∨ k = gw) W w1 from by rw [hw]; exact (Touch.refl _ W).alloc _); clear hw))
    go_ret
    exact ⟨rfl, hA.out, hT.out⟩
  | true =>
    have q1 := of_decide_eq_true q
    obtain ⟨i, rfl⟩ : ∃ i : Nat, at_ = (i : Int) := ⟨at_.toNat, by omega⟩
    have hi : i < ws.length := by omega
    have e0 : cRd ws (i : Int) = ws.getD i 0 := by unfold cRd; rw [q]; rfl
    have e1 : cSt ws st (i : Int) = wrap64 (st + 1) := by unfold cSt; rw [q]; rfl
    rw [e0, e1]
    clear q q1
    go_enter Try.func15, Try.ntmps15
    go_wp2_with (first | (go_at_call 22; (with_reducible refine (cel_step_load gc gw ws st i W.heap.size (.int .u64 0) _ (h.below (below_alloc (Below.refl _ _) _)) hi (blk_new W _) n1 n2).mono ?_); rintro e w1 ⟨rfl, hw⟩; have hA := Aside0.mk (show CellsAt w1 gc gw ws (wrap64 (st + 1)) from by rw [hw]; exact ((h.below (below_alloc (Below.refl _ _) _)).far n1 n2 _).step _); have hB : w1.cell? ⟨W.heap.size, 0, none⟩ = some (.int .u64 (ws.getD i 0)) := (by rw [hw]; exact (blk_cell (cel_far (cel_put (blk_new W _) _) n1 _) 0).trans rfl); have hT := Aside0.mk (show Touch (fun k => k = gc ∨ k = gw) W w1 from by rw [hw]; exact (((Touch.refl _ W).alloc _).set (.inr (Nat.le_refl _)) _).set (.inl (.inl rfl)) _); clear hw))
    go_ret
    exact ⟨by first | rfl | (simp [List.getD, hi]; done), hA.out, hT.out⟩
set_option maxHeartbeats 8000000 in
set_option maxRecDepth 100000 in
theorem cel_Store (gc gw : Nat) (ws : List Int) (st : Int) (at_ y : Int) (W : World) (h : CellsAt W gc gw ws st) :
    Calls Try.prog 18 #[.pointer (some ⟨gc, 0, none⟩), .int .i64 at_, .int .u64 y] W fun e w' => e = .returned (.tuple #[]) ∧ CellsAt w' gc gw (cPutW ws at_ y) (cSt ws st at_) ∧ Touch (fun k => k = gc ∨ k = gw) W w' := by
  have hmf : ∀ (fn : Fn) (first cap : Array Value) (w : World), (Instr.makeFunc fn first cap).run Try.prog w = .ok (.func fn first cap) w := fun _ _ _ _ => rfl
  have n1 : W.heap.size ≠ gc := by have := h.lt; omega
  have n2 : W.heap.size ≠ gw := by have := h.lt; omega
  cases q : cInb ws at_ with
  | false =>
    have e0 : cPutW ws at_ y = ws := by unfold cPutW; rw [q]; rfl
    have e1 : cSt ws st at_ = st := by unfold cSt; rw [q]; rfl
    rw [e0, e1]
    go_enter Try.func18, Try.ntmps18
    go_wp2_with (first | (go_at_call 22; (with_reducible refine (cel_step_out gc gw ws st at_ _ _ (h.below (below_alloc (Below.refl _ _) _)) q).mono ?_); rintro e w1 ⟨rfl, hw⟩; have hA := Aside0.mk (show CellsAt w1 gc gw ws st from by rw [hw]; exact (h.below (below_alloc (Below.refl _ _) _))); have hT := Aside0.mk (show Touch (fun k => k = gc ∨ k = gw) W w1 from by rw [hw]; exact (Touch.refl _ W).alloc _); clear hw))
    go_end0
    exact ⟨rfl, hA.out, hT.out⟩
  | true =>
    have q1 := of_decide_eq_true q
    obtain ⟨i, rfl⟩ : ∃ i : Nat, at_ = (i : Int) := ⟨at_.toNat, by omega⟩
    have hi : i < ws.length := by omega
    have e0 : cPutW ws (i : Int) y = ws.set i y := by unfold cPutW; rw [q]; rfl
    have e1 : cSt ws st (i : Int) = wrap64 (st + 1) := by unfold cSt; rw [q]; rfl
    rw [e0, e1]
    clear q q1
    go_enter Try.func18, Try.ntmps18
    go_wp2_with (first | (go_at_call 22; (with_reducible refine (cel_step_store gc gw ws st i W.heap.size y _ (h.below (below_alloc (Below.refl _ _) _)) hi (blk_new W _)).mono ?_); rintro e w1 ⟨rfl, hw⟩; have hA := Aside0.mk (show CellsAt w1 gc gw (ws.set i y) (wrap64 (st + 1)) from by rw [hw]; exact ((h.below (below_alloc (Below.refl _ _) _)).put i y).step _); have hT := Aside0.mk (show Touch (fun k => k = gc ∨ k = gw) W w1 from by rw [hw]; exact (((Touch.refl _ W).alloc _).set (.inl (.inr rfl)) _).set (.inl (.inl rfl)) _); clear hw))
    go_end0
    exact ⟨rfl, hA.out, hT.out⟩
set_option maxHeartbeats 8000000 in
set_option maxRecDepth 100000 in
theorem cel_Swap (gc gw : Nat) (ws : List Int) (st : Int) (at_ old y : Int) (W : World) (h : CellsAt W gc gw ws st) :
    Calls Try.prog 17 #[.pointer (some ⟨gc, 0, none⟩), .int .i64 at_, .int .u64 old, .int .u64 y] W fun e w' => e = .returned (.bool (cSwB ws at_ old)) ∧ CellsAt w' gc gw (cSwW ws at_ old y) (cSt ws st at_) ∧ Touch (fun k => k = gc ∨ k = gw) W w' := by
  have hmf : ∀ (fn : Fn) (first cap : Array Value) (w : World), (Instr.makeFunc fn first cap).run Try.prog w = .ok (.func fn first cap) w := fun _ _ _ _ => rfl
  have n1 : W.heap.size + 1 + 1 ≠ gc := by have := h.lt; omega
  have n2 : W.heap.size + 1 + 1 ≠ gw := by have := h.lt; omega
  have HBO := Aside0.mk (show (((W.alloc (.cells #[.int .u64 old] 30)).alloc (.cells #[.int .u64 y] 30)).alloc (.cells #[.bool false] 4)).heap[W.heap.size]? = some (.cells #[.int .u64 old] 30 (0, 0)) from blk_below (blk_below (blk_new W _) (below_alloc (Below.refl _ _) _)) (below_alloc (Below.refl _ _) _))
  have HBN := Aside0.mk (show (((W.alloc (.cells #[.int .u64 old] 30)).alloc (.cells #[.int .u64 y] 30)).alloc (.cells #[.bool false] 4)).heap[W.heap.size + 1]? = some (.cells #[.int .u64 y] 30 (0, 0)) from by have h1 := blk_below (blk_new (W.alloc (.cells #[.int .u64 old] 30)) (.cells #[.int .u64 y] 30)) (below_alloc (Below.refl _ _) (.cells #[.bool false] 4)); simpa using h1)
  have HBD := Aside0.mk (show (((W.alloc (.cells #[.int .u64 old] 30)).alloc (.cells #[.int .u64 y] 30)).alloc (.cells #[.bool false] 4)).heap[W.heap.size + 1 + 1]? = some (.cells #[.bool false] 4 (0, 0)) from by have h1 := blk_new ((W.alloc (.cells #[.int .u64 old] 30)).alloc (.cells #[.int .u64 y] 30)) (.cells #[.bool false] 4); simpa using h1)
  cases q : cInb ws at_ with
  | false =>
    have e2 : cSwB ws at_ old = false := by unfold cSwB; rw [q]; rfl
    have e0 : cSwW ws at_ old y = ws := by unfold cSwW; rw [e2]; rfl
    have e1 : cSt ws st at_ = st := by unfold cSt; rw [q]; rfl
    rw [e0, e1, e2]
    go_enter Try.func17, Try.ntmps17
    go_wp2_with (first | (go_at_call 22; (with_reducible refine (cel_step_out gc gw ws st at_ _ _ (h.below (below_alloc (below_alloc (below_alloc (Below.refl _ _) _) _) _)) q).mono ?_); rintro e w1 ⟨rfl, hw⟩; have hA := Aside0.mk (show CellsAt w1 gc gw ws st from by rw [hw]; exact (h.below (below_alloc (below_alloc (below_alloc (Below.refl _ _) _) _) _))); have hB : w1.cell? ⟨W.heap.size + 1 + 1, 0, none⟩ = some (.bool false) := (by rw [hw]; exact (blk_cell (HBD.out) 0).trans rfl); have hT := Aside0.mk (show Touch (fun k => k = gc ∨ k = gw) W w1 from by rw [hw]; exact ((((Touch.refl (fun k => k = gc ∨ k = gw) W).alloc _).alloc _).alloc _)); clear hw))
    go_ret
    exact ⟨rfl, hA.out, hT.out⟩
  | true =>
    have q1 := of_decide_eq_true q
    obtain ⟨i, rfl⟩ : ∃ i : Nat, at_ = (i : Int) := ⟨at_.toNat, by omega⟩
    have hi : i < ws.length := by omega
    have e1 : cSt ws st (i : Int) = wrap64 (st + 1) := by unfold cSt; rw [q]; rfl
    have e3 : cRd ws (i : Int) = ws.getD i 0 := by unfold cRd; rw [q]; rfl
    rw [e1]
    by_cases c : ws.getD i 0 = old
    · have e2 : cSwB ws (i : Int) old = true := by unfold cSwB; rw [q, e3, decide_eq_true c]; rfl
      have e0 : cSwW ws (i : Int) old y = ws.set i y := by unfold cSwW; rw [e2]; rfl
      rw [e0, e2]
      have HCC := Aside0.mk c
      clear q q1 c e1 e3 e2 e0
      go_enter Try.func17, Try.ntmps17
      go_wp2_with (first | (go_at_call 22; (with_reducible refine (cel_step_hit gc gw ws st i W.heap.size (W.heap.size + 1) (W.heap.size + 1 + 1) old y _ (h.below (below_alloc (below_alloc (below_alloc (Below.refl _ _) _) _) _)) hi HBO.out HBN.out HBD.out n1 n2 HCC.out).mono ?_); rintro e w1 ⟨rfl, hw⟩; have hA := Aside0.mk (show CellsAt w1 gc gw (ws.set i y) (wrap64 (st + 1)) from by rw [hw]; exact (((h.below (below_alloc (below_alloc (below_alloc (Below.refl _ _) _) _) _)).put i y).far n1 n2 _).step _); have hB : w1.cell? ⟨W.heap.size + 1 + 1, 0, none⟩ = some (.bool true) := (by rw [hw]; exact (blk_cell (cel_far (cel_put (cel_far HBD.out n2 _) _) n1 _) 0).trans rfl); have hT := Aside0.mk (show Touch (fun k => k = gc ∨ k = gw) W w1 from by rw [hw]; exact ((((((Touch.refl (fun k => k = gc ∨ k = gw) W).alloc _).alloc _).alloc _).set (.inl (.inr rfl)) _).set (.inr (by omega)) _).set (.inl (.inl rfl)) _); clear hw))
      go_ret
      exact ⟨rfl, hA.out, hT.out⟩
    · have e2 : cSwB ws (i : Int) old = false := by unfold cSwB; rw [q, e3, decide_eq_false c]; rfl
      have e0 : cSwW ws (i : Int) old y = ws := by unfold cSwW; rw [e2]; rfl
      rw [e0, e2]
      have HCC := Aside0.mk c
      clear q q1 c e1 e3 e2 e0
      go_enter Try.func17, Try.ntmps17
      go_wp2_with (first | (go_at_call 22; (with_reducible refine (cel_step_miss gc gw ws st i W.heap.size (W.heap.size + 1) (W.heap.size + 1 + 1) old y _ (h.below (below_alloc (below_alloc (below_alloc (Below.refl _ _) _) _) _)) hi HBO.out HBN.out HBD.out n1 n2 HCC.out).mono ?_); rintro e w1 ⟨rfl, hw⟩; have hA := Aside0.mk (show CellsAt w1 gc gw ws (wrap64 (st + 1)) from by rw [hw]; exact ((h.below (below_alloc (below_alloc (below_alloc (Below.refl _ _) _) _) _)).far n1 n2 _).step _); have hB : w1.cell? ⟨W.heap.size + 1 + 1, 0, none⟩ = some (.bool false) := (by rw [hw]; exact (blk_cell (cel_far (cel_put HBD.out _) n1 _) 0).trans rfl); have hT := Aside0.mk (show Touch (fun k => k = gc ∨ k = gw) W w1 from by rw [hw]; exact (((((Touch.refl (fun k => k = gc ∨ k = gw) W).alloc _).alloc _).alloc _).set (.inr (by omega)) _).set (.inl (.inl rfl)) _); clear hw))
      go_ret
      exact ⟨rfl, hA.out, hT.out⟩
set_option maxHeartbeats 8000000 in
set_option maxRecDepth 100000 in
theorem cel_Load_nil (at_ : Int) (W : World) :
    Calls Try.prog 15 #[.pointer none, .int .i64 at_] W fun e w' => e = .returned (.int .u64 0) ∧ Below W.heap.size W w' := by
  have hmf : ∀ (fn : Fn) (first cap : Array Value) (w : World), (Instr.makeFunc fn first cap).run Try.prog w = .ok (.func fn first cap) w := fun _ _ _ _ => rfl
  go_enter Try.func15, Try.ntmps15
  go_wp2_with (first | (go_at_call 22; (with_reducible refine (cel_step_nil at_ _ _).mono ?_); rintro e w1 ⟨rfl, rfl⟩))
  go_ret
  exact ⟨rfl, below_alloc (Below.refl _ _) _⟩
set_option maxHeartbeats 8000000 in
set_option maxRecDepth 100000 in
theorem cel_Store_nil (at_ y : Int) (W : World) :
    Calls Try.prog 18 #[.pointer none, .int .i64 at_, .int .u64 y] W fun e w' => e = .returned (.tuple #[]) ∧ Below W.heap.size W w' := by
  have hmf : ∀ (fn : Fn) (first cap : Array Value) (w : World), (Instr.makeFunc fn first cap).run Try.prog w = .ok (.func fn first cap) w := fun _ _ _ _ => rfl
  go_enter Try.func18, Try.ntmps18
  go_wp2_with (first | (go_at_call 22; (with_reducible refine (cel_step_nil at_ _ _).mono ?_); rintro e w1 ⟨rfl, rfl⟩))
  go_end0
  exact ⟨rfl, below_alloc (Below.refl _ _) _⟩
set_option maxHeartbeats 8000000 in
set_option maxRecDepth 100000 in
theorem cel_Swap_nil (at_ old y : Int) (W : World) :
    Calls Try.prog 17 #[.pointer none, .int .i64 at_, .int .u64 old, .int .u64 y] W fun e w' => e = .returned (.bool false) ∧ Below W.heap.size W w' := by
  have hmf : ∀ (fn : Fn) (first cap : Array Value) (w : World), (Instr.makeFunc fn first cap).run Try.prog w = .ok (.func fn first cap) w := fun _ _ _ _ => rfl
  go_enter Try.func17, Try.ntmps17
  go_wp2_with (first | (go_at_call 22; (with_reducible refine (cel_step_nil at_ _ _).mono ?_); rintro e w1 ⟨rfl, rfl⟩))
  go_ret
  exact ⟨rfl, below_alloc (below_alloc (below_alloc (Below.refl _ _) _) _) _⟩
theorem cel_info : (Try.prog.info? 54).map (fun i => (i.zero, i.size, i.bytes)) = some (some (.agg #[.int .u64 0]), 1, 8) := by kernel_rfl
def cNew (many : Int) : Nat := if many < 0 ∨ 1048576 < many then 0 else many.toNat
theorem cel_made {w : World} {N g n : Nat} (h : w.ownsRow N 54 1 (.slice (some ⟨g, 0, none⟩) n n) n (madeCells (Value.agg #[.int .u64 0]).cells (n * 1)).toList) : w.heap[g]? = some (.cells ((List.replicate n (0 : Int)).map (Value.int .u64)).toArray 54 (0, 0)) := by
  rcases h.2 with ⟨he, _⟩ | ⟨g', cap, cur, he, _, hh, _, _, h5, h6⟩
  · cases he
  · cases he
    rw [hh]
    have e1 : cur.toList = (madeCells (Value.agg #[.int .u64 0]).cells (n * 1)).toList := by rw [← h6, List.take_of_length_le (by rw [Array.length_toList, h5]; exact Nat.le_refl _)]
    have e2 : (madeCells (Value.agg #[.int .u64 0]).cells (n * 1)).toList = List.replicate n (Value.int .u64 0) := by rw [Nat.mul_one]; exact toList_madeCells_one _ _
    rw [List.map_replicate, ← e2, ← e1, Array.toArray_toList]
set_option maxHeartbeats 8000000 in
set_option maxRecDepth 100000 in
theorem cel_New (many : Int) (W : World) :
    Calls Try.prog 13 #[.int .i64 many] W fun e w' => ∃ gc gw, e = .returned (.pointer (some ⟨gc, 0, none⟩)) ∧ CellsAt w' gc gw (List.replicate (cNew many) 0) 0 ∧ W.heap.size ≤ gw ∧ W.heap.size ≤ gc ∧ Below W.heap.size W w' := by
  obtain ⟨i0, hi, hz0, hz1, hz2⟩ := info_parts cel_info
  by_cases c1 : many < 0
  · have e0 : cNew many = 0 := if_pos (.inl c1)
    rw [e0]
    clear e0
    go_enter Try.func13, Try.ntmps13
    go_wp2_with (first | (at_make; refine wpList_make_full _ rfl _ _ 55 rfl W.heap.size 54 i0 (.agg #[.int .u64 0]) 1 Try.underlying55 hi hz0 hz1 .i64 .i64 _ _ 0 (by rfl) (by rfl) rfl rfl ?mb1a ?mb2a (Nat.le_refl _) ?_; rotate_right; intro w1 hown hgrow; have HM1 := Aside0.mk (cel_made hown); have HG1 := Aside0.mk hgrow; clear hown hgrow))
    all_goals first | (rw [hz2]; omega) | (unfold maxLen; omega) | omega | skip
    go_ret
    have hsz := blk_lt HM1.out
    have hb1 : Below W.heap.size W w1 := (Below.refl _ W).grown HG1.out (Nat.le_refl _) (fun k hk => by cases hk)
    first | refine ⟨w1.heap.size, W.heap.size, rfl, ⟨?_, blk_below HM1.out (below_alloc (Below.refl _ _) _), by omega⟩, Nat.le_refl _, by omega, below_step hb1 (below_alloc (Below.refl _ _) _)⟩ | refine ⟨w1.heap.size, rfl, W.heap.size, ⟨?_, blk_below HM1.out (below_alloc (Below.refl _ _) _), by omega⟩, Nat.le_refl _, by omega, below_step hb1 (below_alloc (Below.refl _ _) _)⟩
    have hnew := blk_new w1 (.cells #[.slice (some ⟨W.heap.size, 0, none⟩) 0 0, .int .i64 0] 59)
    simpa using hnew
  · by_cases c2 : 1048576 < many
    · have e0 : cNew many = 0 := if_pos (.inr c2)
      rw [e0]
      clear e0
      go_enter Try.func13, Try.ntmps13
      go_wp2_with (first | (at_make; refine wpList_make_full _ rfl _ _ 55 rfl W.heap.size 54 i0 (.agg #[.int .u64 0]) 1 Try.underlying55 hi hz0 hz1 .i64 .i64 _ _ 0 (by rfl) (by rfl) rfl rfl ?mb1b ?mb2b (Nat.le_refl _) ?_; rotate_right; intro w1 hown hgrow; have HM1 := Aside0.mk (cel_made hown); have HG1 := Aside0.mk hgrow; clear hown hgrow))
      all_goals first | (rw [hz2]; omega) | (unfold maxLen; omega) | omega | skip
      go_ret
      have hsz := blk_lt HM1.out
      have hb1 : Below W.heap.size W w1 := (Below.refl _ W).grown HG1.out (Nat.le_refl _) (fun k hk => by cases hk)
      first | refine ⟨w1.heap.size, W.heap.size, rfl, ⟨?_, blk_below HM1.out (below_alloc (Below.refl _ _) _), by omega⟩, Nat.le_refl _, by omega, below_step hb1 (below_alloc (Below.refl _ _) _)⟩ | refine ⟨w1.heap.size, rfl, W.heap.size, ⟨?_, blk_below HM1.out (below_alloc (Below.refl _ _) _), by omega⟩, Nat.le_refl _, by omega, below_step hb1 (below_alloc (Below.refl _ _) _)⟩
      have hnew := blk_new w1 (.cells #[.slice (some ⟨W.heap.size, 0, none⟩) 0 0, .int .i64 0] 59)
      simpa using hnew
    · have e0 : cNew many = many.toNat := if_neg (by omega)
      rw [e0]
      clear e0
      obtain ⟨n, rfl⟩ : ∃ n : Nat, many = (n : Int) := ⟨many.toNat, by omega⟩
      rw [show ((n : Int)).toNat = n from rfl]
      go_enter Try.func13, Try.ntmps13
      go_wp2_with (first | (at_make; refine wpList_make_full _ rfl _ _ 55 rfl W.heap.size 54 i0 (.agg #[.int .u64 0]) 1 Try.underlying55 hi hz0 hz1 .i64 .i64 _ _ n (by rfl) (by rfl) rfl rfl ?mb1c ?mb2c (Nat.le_refl _) ?_; rotate_right; intro w1 hown hgrow; have HM1 := Aside0.mk (cel_made hown); have HG1 := Aside0.mk hgrow; clear hown hgrow))
      all_goals first | (rw [hz2]; omega) | (unfold maxLen; omega) | omega | skip
      go_ret
      have hsz := blk_lt HM1.out
      have hb1 : Below W.heap.size W w1 := (Below.refl _ W).grown HG1.out (Nat.le_refl _) (fun k hk => by cases hk)
      first | refine ⟨w1.heap.size, W.heap.size, rfl, ⟨?_, blk_below HM1.out (below_alloc (Below.refl _ _) _), by omega⟩, Nat.le_refl _, by omega, below_step hb1 (below_alloc (Below.refl _ _) _)⟩ | refine ⟨w1.heap.size, rfl, W.heap.size, ⟨?_, blk_below HM1.out (below_alloc (Below.refl _ _) _), by omega⟩, Nat.le_refl _, by omega, below_step hb1 (below_alloc (Below.refl _ _) _)⟩
      have hnew := blk_new w1 (.cells #[.slice (some ⟨W.heap.size, 0, none⟩) n n, .int .i64 0] 59)
      simpa using hnew
def corrielaw06_awake.f : Option Bool := some true
set_option maxHeartbeats 8000000 in
set_option maxRecDepth 100000 in
theorem corrielaw06_awake.calls (r : Bool) (w : World) (h : corrielaw06_awake.f = some r) :
    Calls Try.prog 8 #[] w fun e w' => e = .returned (.bool r) ∧ Below w.heap.size w w' := by
  obtain rfl := Option.some.inj h
  clear h
  have HB := Aside0.mk (Below.refl w.heap.size w)
  have H1 := Aside0.mk (show ∀ (W : World) (gc gw : Nat), CellsAt W gc gw [0, 0] 0 → Calls Try.prog 17 #[.pointer (some ⟨gc, 0, none⟩), .int .i64 0, .int .u64 0, .int .u64 5] W (fun e w' => e = .returned (.bool true) ∧ CellsAt w' gc gw [5, 0] 1 ∧ Touch (fun k => k = gc ∨ k = gw) W w') from fun W gc gw h => by
    have h2 := cel_Swap gc gw [0, 0] 0 0 0 5 W h
    rw [show cSwB [0, 0] 0 0 = true from by decide +kernel, show cSwW [0, 0] 0 0 5 = [5, 0] from by decide +kernel, show cSt [0, 0] 0 0 = 1 from by decide +kernel] at h2
    exact h2)
  have H2 := Aside0.mk (show ∀ (W : World) (gc gw : Nat), CellsAt W gc gw [5, 0] 1 → Calls Try.prog 17 #[.pointer (some ⟨gc, 0, none⟩), .int .i64 0, .int .u64 0, .int .u64 6] W (fun e w' => e = .returned (.bool false) ∧ CellsAt w' gc gw [5, 0] 2 ∧ Touch (fun k => k = gc ∨ k = gw) W w') from fun W gc gw h => by
    have h2 := cel_Swap gc gw [5, 0] 1 0 0 6 W h
    rw [show cSwB [5, 0] 0 0 = false from by decide +kernel, show cSwW [5, 0] 0 0 6 = [5, 0] from by decide +kernel, show cSt [5, 0] 1 0 = 2 from by decide +kernel] at h2
    exact h2)
  have H3 := Aside0.mk (show ∀ (W : World) (gc gw : Nat), CellsAt W gc gw [5, 0] 2 → Calls Try.prog 18 #[.pointer (some ⟨gc, 0, none⟩), .int .i64 1, .int .u64 7] W (fun e w' => e = .returned (.tuple #[]) ∧ CellsAt w' gc gw [5, 7] 3 ∧ Touch (fun k => k = gc ∨ k = gw) W w') from fun W gc gw h => by
    have h2 := cel_Store gc gw [5, 0] 2 1 7 W h
    rw [show cPutW [5, 0] 1 7 = [5, 7] from by decide +kernel, show cSt [5, 0] 2 1 = 3 from by decide +kernel] at h2
    exact h2)
  have H4 := Aside0.mk (show ∀ (W : World) (gc gw : Nat), CellsAt W gc gw [5, 7] 3 → Calls Try.prog 15 #[.pointer (some ⟨gc, 0, none⟩), .int .i64 0] W (fun e w' => e = .returned (.int .u64 5) ∧ CellsAt w' gc gw [5, 7] 4 ∧ Touch (fun k => k = gc ∨ k = gw) W w') from fun W gc gw h => by
    have h2 := cel_Load gc gw [5, 7] 3 0 W h
    rw [show cRd [5, 7] 0 = 5 from by decide +kernel, show cSt [5, 7] 3 0 = 4 from by decide +kernel] at h2
    exact h2)
  have H5 := Aside0.mk (show ∀ (W : World) (gc gw : Nat), CellsAt W gc gw [5, 7] 4 → Calls Try.prog 17 #[.pointer (some ⟨gc, 0, none⟩), .int .i64 2, .int .u64 0, .int .u64 1] W (fun e w' => e = .returned (.bool false) ∧ CellsAt w' gc gw [5, 7] 4 ∧ Touch (fun k => k = gc ∨ k = gw) W w') from fun W gc gw h => by
    have h2 := cel_Swap gc gw [5, 7] 4 2 0 1 W h
    rw [show cSwB [5, 7] 2 0 = false from by decide +kernel, show cSwW [5, 7] 2 0 1 = [5, 7] from by decide +kernel, show cSt [5, 7] 4 2 = 4 from by decide +kernel] at h2
    exact h2)
  have H6 := Aside0.mk (show ∀ (W : World) (gc gw : Nat), CellsAt W gc gw [5, 7] 4 → Calls Try.prog 10 #[.pointer (some ⟨gc, 0, none⟩), .int .i64 1] W (fun e w' => e = .returned (.int .u64 7) ∧ w' = W) from fun W gc gw h => by
    have h2 := cel_Peek gc gw [5, 7] 4 1 W h
    rw [show cRd [5, 7] 1 = 7 from by decide +kernel] at h2
    exact h2)
  go_enter Try.func8, Try.ntmps8
  go_wp2_with (first | (go_at_call 13; (with_reducible refine (cel_New 2 _).mono ?_); rintro e w1 ⟨gc, gw, rfl, hA, hg1, hg2, hb⟩; have HC := Aside0.mk (show CellsAt w1 gc gw [0, 0] 0 from hA); have HN := Aside0.mk (show w.heap.size ≤ gc ∧ w.heap.size ≤ gw from by have := HB.out.size; omega); have n_ := Aside0.mk (below_step HB.out hb); clear HB hA hg1 hg2 hb; have HB := n_; clear n_) | (go_at_call 17; (with_reducible refine (H1.out _ gc gw HC.out).mono ?_); rintro e w2 ⟨rfl, hA, hT⟩; have n_ := Aside0.mk hA; clear HC hA; have HC := n_; clear n_; have n_ := Aside0.mk (HB.out.trans (hT.below HB.out.size (fun k hk => by have := HN.out; omega))); clear HB hT; have HB := n_; clear n_) | (go_at_call 17; (with_reducible refine (H2.out _ gc gw HC.out).mono ?_); rintro e w3 ⟨rfl, hA, hT⟩; have n_ := Aside0.mk hA; clear HC hA; have HC := n_; clear n_; have n_ := Aside0.mk (HB.out.trans (hT.below HB.out.size (fun k hk => by have := HN.out; omega))); clear HB hT; have HB := n_; clear n_) | (go_at_call 18; (with_reducible refine (H3.out _ gc gw HC.out).mono ?_); rintro e w4 ⟨rfl, hA, hT⟩; have n_ := Aside0.mk hA; clear HC hA; have HC := n_; clear n_; have n_ := Aside0.mk (HB.out.trans (hT.below HB.out.size (fun k hk => by have := HN.out; omega))); clear HB hT; have HB := n_; clear n_) | (go_at_call 15; (with_reducible refine (H4.out _ gc gw HC.out).mono ?_); rintro e w5 ⟨rfl, hA, hT⟩; have n_ := Aside0.mk hA; clear HC hA; have HC := n_; clear n_; have n_ := Aside0.mk (HB.out.trans (hT.below HB.out.size (fun k hk => by have := HN.out; omega))); clear HB hT; have HB := n_; clear n_) | (go_at_call 10; (with_reducible refine (H6.out _ gc gw HC.out).mono ?_); rintro e wk ⟨rfl, rfl⟩) | (go_at_call 16; (with_reducible refine (cel_Steps gc gw [5, 7] 4 _ HC.out).mono ?_); rintro e wk ⟨rfl, rfl⟩) | (go_at_call 12; (with_reducible refine (cel_Len gc gw [5, 7] 4 _ HC.out).mono ?_); rintro e wk ⟨rfl, rfl⟩) | (go_at_call 17; (with_reducible refine (H5.out _ gc gw HC.out).mono ?_); rintro e w6 ⟨rfl, hA, hT⟩; have n_ := Aside0.mk hA; clear HC hA; have HC := n_; clear n_; have n_ := Aside0.mk (HB.out.trans (hT.below HB.out.size (fun k hk => by have := HN.out; omega))); clear HB hT; have HB := n_; clear n_))
  go_ret
  exact ⟨by first | rfl | (simp [*]; done), by repeat (first | (with_reducible first | exact HB.out | apply below_alloc | apply pw_below_drewN | apply below_drew1) | exact HB.out)⟩


/-! ### corrieref06_New: function 14 -/
def corrieref06_New.f (a0 : Int) : Option (List Int × Int) := if a0 < 0 then (some (([] : List Int), 0)) else (if a0 > 1048576 then (some (([] : List Int), 0)) else (if 0 ≤ a0 then (if (a0 : Int).toNat ≤ 35184372088832 then (some ((List.replicate (a0 : Int).toNat 0), 0)) else (none)) else (none)))
set_option maxHeartbeats 8000000 in
set_option maxRecDepth 100000 in
theorem corrieref06_New.calls (a0 : Int) (r1 : List Int) (r2 : Int) (w : World) (h : corrieref06_New.f a0 = some (r1, r2)) :
    Calls Try.prog 14 #[.int .i64 a0] w fun e w' => ∃ v0_ : Value, e = .returned (.agg #[v0_, .int .i64 r2]) ∧ Kd.R (Kd.int .u64) 30 w' w.heap.size (fun _ => True) v0_ r1 ∧ Below w.heap.size w w' := by
  have hu27 := Try.underlying27
  have HB := Aside0.mk (Below.refl w.heap.size w)
  have H : (if a0 < 0 then (some (([] : List Int), 0)) else (if a0 > 1048576 then (some (([] : List Int), 0)) else (if 0 ≤ a0 then (if (a0 : Int).toNat ≤ 35184372088832 then (some ((List.replicate (a0 : Int).toNat 0), 0)) else (none)) else (none)))) = some (r1, r2) := h
  clear h
  by_cases c2 : a0 < 0
  · rw [if_pos c2] at H
    have c2b0 : decide (a0 < 0) = true := decide_eq_true c2
    clear c2
    simp only [Option.some.injEq, Prod.mk.injEq] at H
    obtain ⟨rfl, rfl⟩ := H
    go_enter Try.func14, Try.ntmps14
    go_wp2_with (first | ((with_reducible refine gate_dst (N := 2) rfl ?_); refine box_event ?hg (N := 2) ?hd (cs := #[.slice none 0 0, .int .i64 0]) (t := 27) ?hr ?_; (case hd => rfl); (case hg => rfl); (case hr => first | (go_simp; done) | (go_simp; rfl)); intro gb101 hg w3 hbox hb; have n0_ := Aside0.mk (below_step (by repeat (first | (with_reducible first | exact HB.out | apply below_alloc | apply pw_below_drewN | apply below_drew1) | exact HB.out)) hb); have n1_ := Aside0.mk (hbox); have n2_ := Aside0.mk ((by rw [hg]; exact (below_size (by repeat (first | (with_reducible first | exact HB.out | apply below_alloc | apply pw_below_drewN | apply below_drew1) | exact HB.out))) : w.heap.size ≤ gb101)); have n3_ := Aside0.mk ((by rw [hg]; exact (below_size (by repeat (first | (with_reducible first | exact HB.out | apply below_alloc | apply pw_below_drewN | apply below_drew1) | exact HB.out))) : w.heap.size ≤ gb101)); clear HB; have HB := n0_; have BK101 := n1_; have GW101 := n2_; have GE101 := n3_; clear n0_ n1_ n2_ n3_; clear hb hbox hg; have hcz4_0 : w3.cell? ⟨gb101, 0, none⟩ = some (.slice none 0 0) := (blk_cell BK101.out 0).trans rfl; have hcz4_1 : w3.cell? ⟨gb101, 1, none⟩ = some (.int .i64 0) := (blk_cell BK101.out 1).trans rfl; have hfz4_0 := blk_frozen BK101.out 0; have hfz4_1 := blk_frozen BK101.out 1))
    refine bodyPost_ret (results_cell_row rfl _ _ gb101 27 #[.slice none 0 0, .int .i64 0] (0, 0) _ rfl (by (with_reducible repeat (first | refine blk_drewN ?_ _ | refine blk_drew ?_ | refine blk_alloc ?_ _)); refine blk_put (cs := #[.slice none 0 0, .int .i64 0]) ?_ 1 _ rfl; (with_reducible repeat (first | refine blk_drewN ?_ _ | refine blk_drew ?_ | refine blk_alloc ?_ _)); refine blk_put (cs := #[.slice none 0 0, .int .i64 0]) ?_ 0 _ rfl; (with_reducible repeat (first | refine blk_drewN ?_ _ | refine blk_drew ?_ | refine blk_alloc ?_ _)); exact BK101.out) Try.underlying27 rfl (by kernel_rfl)) rfl ?_
    exact ⟨_, by first | rfl | (simp [errW_none, errW_some] <;> rfl) | (simp [*, errW_none, errW_some] <;> rfl), by first | exact Kd.R_nil _ _ _ _ _ | exact Kd.N_nil _ _ _ _ _ | exact Kd.V_nil _ _ _ _ _ | exact Kd.Q_nil _ _ _ _ _ | exact Kd.S_nil _ _ _ _ _, by repeat (first | (with_reducible first | exact HB.out | apply below_alloc | apply pw_below_drewN | apply below_drew1 | refine below_set ?_ GE101.out) | exact HB.out)⟩
  · rw [if_neg c2] at H
    have c2b0 : decide (a0 < 0) = false := decide_eq_false c2
    clear c2
    by_cases c5 : a0 > 1048576
    · rw [if_pos c5] at H
      have c5b0 : decide (1048576 < a0) = true := decide_eq_true c5
      clear c5
      simp only [Option.some.injEq, Prod.mk.injEq] at H
      obtain ⟨rfl, rfl⟩ := H
      go_enter Try.func14, Try.ntmps14
      go_wp2_with (first | ((with_reducible refine gate_dst (N := 2) rfl ?_); refine box_event ?hg (N := 2) ?hd (cs := #[.slice none 0 0, .int .i64 0]) (t := 27) ?hr ?_; (case hd => rfl); (case hg => rfl); (case hr => first | (go_simp; done) | (go_simp; rfl)); intro gb101 hg w6 hbox hb; have n0_ := Aside0.mk (below_step (by repeat (first | (with_reducible first | exact HB.out | apply below_alloc | apply pw_below_drewN | apply below_drew1) | exact HB.out)) hb); have n1_ := Aside0.mk (hbox); have n2_ := Aside0.mk ((by rw [hg]; exact (below_size (by repeat (first | (with_reducible first | exact HB.out | apply below_alloc | apply pw_below_drewN | apply below_drew1) | exact HB.out))) : w.heap.size ≤ gb101)); have n3_ := Aside0.mk ((by rw [hg]; exact (below_size (by repeat (first | (with_reducible first | exact HB.out | apply below_alloc | apply pw_below_drewN | apply below_drew1) | exact HB.out))) : w.heap.size ≤ gb101)); clear HB; have HB := n0_; have BK101 := n1_; have GW101 := n2_; have GE101 := n3_; clear n0_ n1_ n2_ n3_; clear hb hbox hg; have hcz7_0 : w6.cell? ⟨gb101, 0, none⟩ = some (.slice none 0 0) := (blk_cell BK101.out 0).trans rfl; have hcz7_1 : w6.cell? ⟨gb101, 1, none⟩ = some (.int .i64 0) := (blk_cell BK101.out 1).trans rfl; have hfz7_0 := blk_frozen BK101.out 0; have hfz7_1 := blk_frozen BK101.out 1))
      refine bodyPost_ret (results_cell_row rfl _ _ gb101 27 #[.slice none 0 0, .int .i64 0] (0, 0) _ rfl (by (with_reducible repeat (first | refine blk_drewN ?_ _ | refine blk_drew ?_ | refine blk_alloc ?_ _)); refine blk_put (cs := #[.slice none 0 0, .int .i64 0]) ?_ 1 _ rfl; (with_reducible repeat (first | refine blk_drewN ?_ _ | refine blk_drew ?_ | refine blk_alloc ?_ _)); refine blk_put (cs := #[.slice none 0 0, .int .i64 0]) ?_ 0 _ rfl; (with_reducible repeat (first | refine blk_drewN ?_ _ | refine blk_drew ?_ | refine blk_alloc ?_ _)); exact BK101.out) Try.underlying27 rfl (by kernel_rfl)) rfl ?_
      exact ⟨_, by first | rfl | (simp [errW_none, errW_some] <;> rfl) | (simp [*, errW_none, errW_some] <;> rfl), by first | exact Kd.R_nil _ _ _ _ _ | exact Kd.N_nil _ _ _ _ _ | exact Kd.V_nil _ _ _ _ _ | exact Kd.Q_nil _ _ _ _ _ | exact Kd.S_nil _ _ _ _ _, by repeat (first | (with_reducible first | exact HB.out | apply below_alloc | apply pw_below_drewN | apply below_drew1 | refine below_set ?_ GE101.out) | exact HB.out)⟩
    · rw [if_neg c5] at H
      have c5b0 : decide (1048576 < a0) = false := decide_eq_false c5
      clear c5
      by_cases c8 : 0 ≤ a0
      · rw [if_pos c8] at H
        have c8b0 := eq_true c8
        have c8b1 : decide (0 ≤ a0) = true := decide_eq_true c8
        clear c8
        by_cases c9 : (a0 : Int).toNat ≤ 35184372088832
        · rw [if_pos c9] at H
          have c9b0 := eq_true c9
          have c9b1 : decide ((a0 : Int).toNat ≤ 35184372088832) = true := decide_eq_true c9
          clear c9
          obtain ⟨y102, hy102⟩ : ∃ y_ : List Int, y_ = (List.replicate (a0 : Int).toNat 0) := ⟨_, rfl⟩
          replace H : (some (y102, 0)) = some (r1, r2) := by first | (rw [hy102]; with_reducible exact H) | (have H2_ := (Option.bind_some _ _).symm.trans H; rw [hy102]; with_reducible exact H2_) | (have H2_ := (Option.bind_some _ _).symm.trans H; with_reducible exact H2_) | with_reducible exact H | (rw [hy102]; exact H) | exact H
          have Ny102 := Aside0.mk hy102
          clear hy102
          simp only [Option.some.injEq, Prod.mk.injEq] at H
          obtain ⟨rfl, rfl⟩ := H
          go_enter Try.func14, Try.ntmps14
          go_wp2_with (first | ((with_reducible refine gate_dst (N := 2) rfl ?_); refine box_event ?hg (N := 2) ?hd (cs := #[.slice none 0 0, .int .i64 0]) (t := 27) ?hr ?_; (case hd => rfl); (case hg => rfl); (case hr => first | (go_simp; done) | (go_simp; rfl)); intro gb101 hg w10 hbox hb; have n0_ := Aside0.mk (below_step (by repeat (first | (with_reducible first | exact HB.out | apply below_alloc | apply pw_below_drewN | apply below_drew1) | exact HB.out)) hb); have n1_ := Aside0.mk (hbox); have n2_ := Aside0.mk ((by rw [hg]; exact (below_size (by repeat (first | (with_reducible first | exact HB.out | apply below_alloc | apply pw_below_drewN | apply below_drew1) | exact HB.out))) : w.heap.size ≤ gb101)); have n3_ := Aside0.mk ((by rw [hg]; exact (below_size (by repeat (first | (with_reducible first | exact HB.out | apply below_alloc | apply pw_below_drewN | apply below_drew1) | exact HB.out))) : w.heap.size ≤ gb101)); clear HB; have HB := n0_; have BK101 := n1_; have GW101 := n2_; have GE101 := n3_; clear n0_ n1_ n2_ n3_; clear hb hbox hg) | ((with_reducible refine gate_dst (N := 11) rfl ?_); refine Kd.R_make (Kd.int .u64) _ 30 rfl (N := 11) rfl 25 _ _ rfl a0 rfl rfl Try.underlying25 (.int .u64 0) 8 info30 rfl (by decide) (by omega) 0 (ok := fun _ => True) (okp := fun _ => True) rfl (fun _ hk => hk) trivial (of_decide_eq_true (by first | (with_reducible assumption) | assumption)) (Nat.le_trans (Nat.mul_le_mul_right _ (of_decide_eq_true (by first | (with_reducible assumption) | assumption) : a0.toNat ≤ 35184372088832)) (by omega)) (Below.refl _ _) (Nat.le_refl _) ?_; intro v103 w11 ho12 hb hg_ hnew_; clear hg_ hnew_; (first | rw [← Ny102.out] at ho12 | (simp only [Int.reduceToNat] at ho12; rw [← Ny102.out] at ho12)); have n0_ := Aside0.mk (Kd.R_lower ho12 (below_size (by repeat (first | (with_reducible first | exact HB.out | apply below_alloc | apply pw_below_drewN | apply below_drew1 | refine below_set ?_ GE101.out) | exact HB.out)))); have n1_ := Aside0.mk (blk_below (g := gb101) (o := .cells #[.slice none 0 0, .int .i64 0] 27 (0, 0)) (by (with_reducible repeat (first | refine blk_drewN ?_ _ | refine blk_drew ?_ | refine blk_alloc ?_ _)); exact BK101.out) hb); have n2_ := Aside0.mk (below_step (by repeat (first | (with_reducible first | exact HB.out | apply below_alloc | apply pw_below_drewN | apply below_drew1 | refine below_set ?_ GE101.out) | exact HB.out)) hb); clear BK101; clear HB; have HO104 := n0_; have BK101 := n1_; have HB := n2_; clear n0_ n1_ n2_; clear hb ho12; obtain ⟨Ao13, co13, eo13⟩ := Kd.R_slice HO104.out; subst eo13; have hcz14_0 : w11.cell? ⟨gb101, 0, none⟩ = some (.slice none 0 0) := (blk_cell BK101.out 0).trans rfl; have hcz14_1 : w11.cell? ⟨gb101, 1, none⟩ = some (.int .i64 0) := (blk_cell BK101.out 1).trans rfl; have hfz14_0 := blk_frozen BK101.out 0; have hfz14_1 := blk_frozen BK101.out 1))
          refine bodyPost_ret (results_cell_row rfl _ _ gb101 27 #[.slice Ao13 y102.length co13, .int .i64 0] (0, 0) _ rfl (by (with_reducible repeat (first | refine blk_drewN ?_ _ | refine blk_drew ?_ | refine blk_alloc ?_ _)); refine blk_put (cs := #[.slice Ao13 y102.length co13, .int .i64 0]) ?_ 1 _ rfl; (with_reducible repeat (first | refine blk_drewN ?_ _ | refine blk_drew ?_ | refine blk_alloc ?_ _)); refine blk_put (cs := #[.slice none 0 0, .int .i64 0]) ?_ 0 _ rfl; (with_reducible repeat (first | refine blk_drewN ?_ _ | refine blk_drew ?_ | refine blk_alloc ?_ _)); exact BK101.out) Try.underlying27 rfl (by kernel_rfl)) rfl ?_
          exact ⟨_, by first | rfl | (simp [errW_none, errW_some] <;> rfl) | (simp [*, errW_none, errW_some] <;> rfl), by (with_reducible repeat (first | apply Kd.R_alloc | apply Kd.R_drewN | apply Kd.R_drew)); exact Kd.R_mono (Kd.R_far (p := ⟨gb101, 1, none⟩) (Kd.R_far (p := ⟨gb101, 0, none⟩) (Kd.R_types HO104.out BK101.out (by decide)) (fun _ hk => hk.2) (.slice Ao13 y102.length co13)) (fun _ hk => hk.2) (.int .i64 0)) (fun _ hk => trivial), by repeat (first | (with_reducible first | exact HB.out | apply below_alloc | apply pw_below_drewN | apply below_drew1 | refine below_set ?_ GE101.out) | exact HB.out)⟩
        · rw [if_neg c9] at H
          exact absurd H (by simp)
      · rw [if_neg c8] at H
        exact absurd H (by simp)

-- NOT PRINTED: function 19 (corrielaw06_do)

/-! ### corrieref06_Peek: function 11 -/
def corrieref06_Peek.f (l0_0 : List Int) (a0_1 : Int) (a1 : Int) : Option (Int) := if a1 < 0 then (some 0) else (if a1 ≥ (l0_0.length : Int) then (some 0) else (if 0 ≤ a1 then (if a1 < (l0_0.length : Int) then (some (rd l0_0 a1)) else (none)) else (none)))
set_option maxHeartbeats 8000000 in
set_option maxRecDepth 100000 in
theorem corrieref06_Peek.calls (A0_0 : Option Addr) (c0_0 : Nat) (l0_0 : List Int) (a0_1 : Int) (a1 : Int) (r : Int) (w : World) (hr0_0 : Kd.C (Kd.int .u64) w A0_0 l0_0.length l0_0) (hc0_0 : l0_0.length ≤ c0_0) (h : corrieref06_Peek.f l0_0 a0_1 a1 = some r) :
    Calls Try.prog 11 #[.agg #[.slice A0_0 l0_0.length c0_0, .int .i64 a0_1], .int .i64 a1] w fun e w' => e = .returned (.int .u64 r) ∧ Below w.heap.size w w' := by
  have hu27 := Try.underlying27
  have HR0_0 := Aside0.mk hr0_0
  have HC0_0 := Aside0.mk hc0_0
  clear hr0_0 hc0_0
  have HB := Aside0.mk (Below.refl w.heap.size w)
  have H : (if a1 < 0 then (some 0) else (if a1 ≥ (l0_0.length : Int) then (some 0) else (if 0 ≤ a1 then (if a1 < (l0_0.length : Int) then (some (rd l0_0 a1)) else (none)) else (none)))) = some r := h
  clear h
  by_cases c3 : a1 < 0
  · rw [if_pos c3] at H
    have c3b0 : decide (a1 < 0) = true := decide_eq_true c3
    clear c3
    obtain rfl := Option.some.inj H
    go_enter Try.func11, Try.ntmps11
    go_wp2_with (first | ((with_reducible refine gate_dst (N := 2) rfl ?_); (try (refine gate_guard (by rfl) ?_; dsimp only)); refine box_event ?hg (N := 2) ?hd (cs := #[.slice A0_0 l0_0.length c0_0, .int .i64 a0_1]) (t := 27) ?hr ?_; (case hd => rfl); (case hg => rfl); (case hr => first | (go_simp; done) | (go_simp; rfl)); intro gb105 hg w4 hbox hb; have n0_ := Aside0.mk (below_step (by repeat (first | (with_reducible first | exact HB.out | apply below_alloc | apply pw_below_drewN | apply below_drew1) | exact HB.out)) hb); have n1_ := Aside0.mk (hbox); have n2_ := Aside0.mk ((by rw [hg]; exact (below_size (by repeat (first | (with_reducible first | exact HB.out | apply below_alloc | apply pw_below_drewN | apply below_drew1) | exact HB.out))) : w.heap.size ≤ gb105)); have n3_ := Aside0.mk ((by rw [hg]; exact (below_size (by repeat (first | (with_reducible first | exact HB.out | apply below_alloc | apply pw_below_drewN | apply below_drew1) | exact HB.out))) : w.heap.size ≤ gb105)); clear HB; have HB := n0_; have BK105 := n1_; have GW105 := n2_; have GE105 := n3_; clear n0_ n1_ n2_ n3_; clear hb hbox hg))
    go_ret
    exact ⟨by first | rfl | (simp [errW_none, errW_some] <;> rfl) | (simp [*, errW_none, errW_some] <;> rfl), by repeat (first | (with_reducible first | exact HB.out | apply below_alloc | apply pw_below_drewN | apply below_drew1 | refine below_set ?_ GE105.out) | exact HB.out)⟩
  · rw [if_neg c3] at H
    have c3b0 : decide (a1 < 0) = false := decide_eq_false c3
    clear c3
    by_cases c5 : a1 ≥ (l0_0.length : Int)
    · rw [if_pos c5] at H
      have c5b0 : decide ((l0_0.length : Int) ≤ a1) = true := decide_eq_true c5
      clear c5
      obtain rfl := Option.some.inj H
      go_enter Try.func11, Try.ntmps11
      go_wp2_with (first | ((with_reducible refine gate_dst (N := 2) rfl ?_); (try (refine gate_guard (by rfl) ?_; dsimp only)); refine box_event ?hg (N := 2) ?hd (cs := #[.slice A0_0 l0_0.length c0_0, .int .i64 a0_1]) (t := 27) ?hr ?_; (case hd => rfl); (case hg => rfl); (case hr => first | (go_simp; done) | (go_simp; rfl)); intro gb105 hg w6 hbox hb; have n0_ := Aside0.mk (below_step (by repeat (first | (with_reducible first | exact HB.out | apply below_alloc | apply pw_below_drewN | apply below_drew1) | exact HB.out)) hb); have n1_ := Aside0.mk (hbox); have n2_ := Aside0.mk ((by rw [hg]; exact (below_size (by repeat (first | (with_reducible first | exact HB.out | apply below_alloc | apply pw_below_drewN | apply below_drew1) | exact HB.out))) : w.heap.size ≤ gb105)); have n3_ := Aside0.mk ((by rw [hg]; exact (below_size (by repeat (first | (with_reducible first | exact HB.out | apply below_alloc | apply pw_below_drewN | apply below_drew1) | exact HB.out))) : w.heap.size ≤ gb105)); clear HB; have HB := n0_; have BK105 := n1_; have GW105 := n2_; have GE105 := n3_; clear n0_ n1_ n2_ n3_; clear hb hbox hg; have hcz7_0 : w6.cell? ⟨gb105, 0, none⟩ = some (.slice A0_0 l0_0.length c0_0) := (blk_cell BK105.out 0).trans rfl; have hcz7_1 : w6.cell? ⟨gb105, 1, none⟩ = some (.int .i64 a0_1) := (blk_cell BK105.out 1).trans rfl; have hfz7_0 := blk_frozen BK105.out 0; have hfz7_1 := blk_frozen BK105.out 1))
      go_ret
      exact ⟨by first | rfl | (simp [errW_none, errW_some] <;> rfl) | (simp [*, errW_none, errW_some] <;> rfl), by repeat (first | (with_reducible first | exact HB.out | apply below_alloc | apply pw_below_drewN | apply below_drew1 | refine below_set ?_ GE105.out) | exact HB.out)⟩
    · rw [if_neg c5] at H
      have c5b0 : decide ((l0_0.length : Int) ≤ a1) = false := decide_eq_false c5
      clear c5
      by_cases c8 : 0 ≤ a1
      · rw [if_pos c8] at H
        have c8b0 : decide (0 ≤ a1) = true := decide_eq_true c8
        clear c8
        by_cases c9 : a1 < (l0_0.length : Int)
        · rw [if_pos c9] at H
          have c9b0 : decide (a1 < (l0_0.length : Int)) = true := decide_eq_true c9
          clear c9
          obtain rfl := Option.some.inj H
          go_enter Try.func11, Try.ntmps11
          go_wp2_with (first | ((with_reducible refine gate_dst (N := 2) rfl ?_); (try (refine gate_guard (by rfl) ?_; dsimp only)); refine box_event ?hg (N := 2) ?hd (cs := #[.slice A0_0 l0_0.length c0_0, .int .i64 a0_1]) (t := 27) ?hr ?_; (case hd => rfl); (case hg => rfl); (case hr => first | (go_simp; done) | (go_simp; rfl)); intro gb105 hg w10 hbox hb; have n0_ := Aside0.mk (below_step (by repeat (first | (with_reducible first | exact HB.out | apply below_alloc | apply pw_below_drewN | apply below_drew1) | exact HB.out)) hb); have n1_ := Aside0.mk (hbox); have n2_ := Aside0.mk ((by rw [hg]; exact (below_size (by repeat (first | (with_reducible first | exact HB.out | apply below_alloc | apply pw_below_drewN | apply below_drew1) | exact HB.out))) : w.heap.size ≤ gb105)); have n3_ := Aside0.mk ((by rw [hg]; exact (below_size (by repeat (first | (with_reducible first | exact HB.out | apply below_alloc | apply pw_below_drewN | apply below_drew1) | exact HB.out))) : w.heap.size ≤ gb105)); clear HB; have HB := n0_; have BK105 := n1_; have GW105 := n2_; have GE105 := n3_; clear n0_ n1_ n2_ n3_; clear hb hbox hg; have hcz11_0 : w10.cell? ⟨gb105, 0, none⟩ = some (.slice A0_0 l0_0.length c0_0) := (blk_cell BK105.out 0).trans rfl; have hcz11_1 : w10.cell? ⟨gb105, 1, none⟩ = some (.int .i64 a0_1) := (blk_cell BK105.out 1).trans rfl; have hfz11_0 := blk_frozen BK105.out 0; have hfz11_1 := blk_frozen BK105.out 1; have p106 : 0 ≤ (a1 : Int) := of_decide_eq_true (by first | (with_reducible assumption) | assumption); have q106 : a1 < (l0_0.length : Int) := of_decide_eq_true (by first | (with_reducible assumption) | assumption); obtain ⟨ad106, e106, hx106_0⟩ := Kd.at_int HR0_0.out a1 p106 q106; cases e106; replace hx106_0 := (HB.out.cell (World.block_lt_of_cell? w _ hx106_0)).trans hx106_0; replace p106 := eq_true p106; replace q106 := eq_true q106))
          go_ret
          exact ⟨by first | rfl | (simp [errW_none, errW_some] <;> rfl) | (simp [*, errW_none, errW_some] <;> rfl), by repeat (first | (with_reducible first | exact HB.out | apply below_alloc | apply pw_below_drewN | apply below_drew1 | refine below_set ?_ GE105.out) | exact HB.out)⟩
        · rw [if_neg c9] at H
          exact absurd H (by simp)
      · rw [if_neg c8] at H
        exact absurd H (by simp)

/-! ### corrieref06_Load: function 29 -/
def corrieref06_Load.f (l0_0 : List Int) (a0_1 : Int) (a1 : Int) : Option (List Int × Int × Int) := if a1 < 0 then (some (l0_0, a0_1, 0)) else (if a1 ≥ (l0_0.length : Int) then (some (l0_0, a0_1, 0)) else (if 0 ≤ a1 then (if a1 < (l0_0.length : Int) then (some (l0_0, wrap64 (a0_1 + 1), rd l0_0 a1)) else (none)) else (none)))
def corrieref06_Load.T4 : Bool × List (List Nat × List Nat) := (true, [([], []), ([], []), ([1], [1]), ([], []), ([2, 3], [2, 3]), ([4], [4]), ([0, 0], [0]), ([5, 6, 0, 1, 2, 3, 4, 5, 6], [5])])
def corrieref06_Load.B4 : List Nat := [0, 0, 2, 0, 14, 30, 1, 127]
theorem corrieref06_Load.tab4 : rtab .any (opsOf Try.f29 4) = corrieref06_Load.T4 := by kernel_rfl
theorem corrieref06_Load.bits4 : waitsOk corrieref06_Load.T4.2 corrieref06_Load.B4 = true := by kernel_rfl
set_option maxHeartbeats 8000000 in
set_option maxRecDepth 100000 in
theorem corrieref06_Load.calls (P0_0_ : Nat → Prop) (u9000_ : Value) (l0_0 : List Int) (a0_1 : Int) (a1 : Int) (r1 : List Int) (r2 : Int) (r3 : Int) (w0 w : World) (hB : Below w0.heap.size w0 w) (ho0_0 : Kd.R (Kd.int .u64) 30 w w0.heap.size P0_0_ u9000_ l0_0) (h : corrieref06_Load.f l0_0 a0_1 a1 = some (r1, r2, r3)) :
    Calls Try.prog 29 #[.agg #[u9000_, .int .i64 a0_1], .int .i64 a1] w fun e w' => ∃ v0_ : Value, e = .returned (.tuple #[.agg #[v0_, .int .i64 r2], .int .u64 r3]) ∧ Kd.R (Kd.int .u64) 30 w' w0.heap.size (fun k_ => (P0_0_ k_ ∨ w.heap.size ≤ k_)) v0_ r1 ∧ Below w0.heap.size w0 w' ∧ Kept w w' (fun k_ => P0_0_ k_) := by
  have hu27 := Try.underlying27
  have HO0_0 := Aside0.mk (show Kd.R (Kd.int .u64) 30 w w0.heap.size (fun k_ => (P0_0_ k_ ∨ w.heap.size ≤ k_)) u9000_ l0_0 from Kd.R_mono ho0_0 (fun k_ hk => (.inl hk)))
  have HK := Aside0.mk (Kept.refl w (fun k_ => P0_0_ k_))
  have HW0 := Aside0.mk hB.size
  have HB := Aside0.mk hB
  clear hB
  have H : (if a1 < 0 then (some (l0_0, a0_1, 0)) else (if a1 ≥ (l0_0.length : Int) then (some (l0_0, a0_1, 0)) else (if 0 ≤ a1 then (if a1 < (l0_0.length : Int) then (some (l0_0, wrap64 (a0_1 + 1), rd l0_0 a1)) else (none)) else (none)))) = some (r1, r2, r3) := h
  clear h
  by_cases c3 : a1 < 0
  · rw [if_pos c3] at H
    have c3b0 : decide (a1 < 0) = true := decide_eq_true c3
    clear c3
    simp only [Option.some.injEq, Prod.mk.injEq] at H
    obtain ⟨rfl, rfl, rfl⟩ := H
    obtain ⟨Ao4, co4, eo4⟩ := Kd.R_slice HO0_0.out
    subst eo4
    go_enter Try.func29, Try.ntmps29
    go_wp2_with (first | ((with_reducible refine gate_dst (N := 2) rfl ?_); (try (refine gate_guard (by rfl) ?_; dsimp only)); refine box_event ?hg (N := 2) ?hd (cs := #[.slice Ao4 l0_0.length co4, .int .i64 a0_1]) (t := 27) ?hr ?_; (case hd => rfl); (case hg => rfl); (case hr => first | (go_simp; done) | (go_simp; rfl)); intro gb107 hg w5 hbox hb; have n0_ := Aside0.mk (Kd.R_below (by (with_reducible repeat (first | apply Kd.R_alloc | apply Kd.R_drewN | apply Kd.R_drew)); exact HO0_0.out) hb); have n1_ := Aside0.mk (Kept.below (S := (fun k_ => P0_0_ k_)) (by repeat (first | (with_reducible first | exact HK.out | apply Kept.alloc | apply Kept.drewN | apply Kept.drew) | exact HK.out)) hb); have n2_ := Aside0.mk (below_step (by repeat (first | (with_reducible first | exact HB.out | apply below_alloc | apply pw_below_drewN | apply below_drew1) | exact HB.out)) hb); have n3_ := Aside0.mk (hbox); have n4_ := Aside0.mk ((by rw [hg]; exact (by first | exact HK.out.1 | exact (show Kept w _ (fun k_ => P0_0_ k_) from by repeat (first | (with_reducible first | exact HK.out | apply Kept.alloc | apply Kept.drewN | apply Kept.drew) | exact HK.out)).1) : w.heap.size ≤ gb107)); have n5_ := Aside0.mk ((by rw [hg]; exact (below_size (by repeat (first | (with_reducible first | exact HB.out | apply below_alloc | apply pw_below_drewN | apply below_drew1) | exact HB.out))) : w0.heap.size ≤ gb107)); clear HO0_0; clear HK; clear HB; have HO0_0 := n0_; have HK := n1_; have HB := n2_; have BK107 := n3_; have GW107 := n4_; have GE107 := n5_; clear n0_ n1_ n2_ n3_ n4_ n5_; clear hb hbox hg) | ((with_reducible refine gate_dst (N := 4) rfl ?_); (try (refine gate_guard (by rfl) ?_; dsimp only)); refine box_event ?hg (N := 4) ?hd (cs := #[.slice none 0 0, .int .i64 0]) (t := 27) ?hr ?_; (case hd => rfl); (case hg => rfl); (case hr => first | (go_simp; done) | (go_simp; rfl)); intro gb108 hg w6 hbox hb; have n0_ := Aside0.mk (Kd.R_below (by (with_reducible repeat (first | apply Kd.R_alloc | apply Kd.R_drewN | apply Kd.R_drew)); exact HO0_0.out) hb); have n1_ := Aside0.mk (blk_below (g := gb107) (o := .cells #[.slice Ao4 l0_0.length co4, .int .i64 a0_1] 27 (0, 0)) (by (with_reducible repeat (first | refine blk_drewN ?_ _ | refine blk_drew ?_ | refine blk_alloc ?_ _)); exact BK107.out) hb); have n2_ := Aside0.mk (Kept.below (S := (fun k_ => P0_0_ k_)) (by repeat (first | (with_reducible first | exact HK.out | apply Kept.alloc | apply Kept.drewN | apply Kept.drew | refine Kept.setCell ?_ (.inr GW107.out) _) | exact HK.out)) hb); have n3_ := Aside0.mk (below_step (by repeat (first | (with_reducible first | exact HB.out | apply below_alloc | apply pw_below_drewN | apply below_drew1 | refine below_set ?_ GE107.out) | exact HB.out)) hb); have n4_ := Aside0.mk (hbox); have n5_ := Aside0.mk ((by rw [hg]; exact (by first | exact HK.out.1 | exact (show Kept w _ (fun k_ => P0_0_ k_) from by repeat (first | (with_reducible first | exact HK.out | apply Kept.alloc | apply Kept.drewN | apply Kept.drew | refine Kept.setCell ?_ (.inr GW107.out) _) | exact HK.out)).1) : w.heap.size ≤ gb108)); have n6_ := Aside0.mk ((by rw [hg]; exact (below_size (by repeat (first | (with_reducible first | exact HB.out | apply below_alloc | apply pw_below_drewN | apply below_drew1 | refine below_set ?_ GE107.out) | exact HB.out))) : w0.heap.size ≤ gb108)); have n7_ := Aside0.mk ((by rw [hg]; exact Nat.ne_of_lt (blk_lt (g := gb107) (o := .cells #[.slice Ao4 l0_0.length co4, .int .i64 a0_1] 27 (0, 0)) (by (with_reducible repeat (first | refine blk_drewN ?_ _ | refine blk_drew ?_ | refine blk_alloc ?_ _)); exact BK107.out)) : gb107 ≠ gb108)); have n8_ := Aside0.mk ((by rw [hg]; exact Nat.ne_of_gt (blk_lt (g := gb107) (o := .cells #[.slice Ao4 l0_0.length co4, .int .i64 a0_1] 27 (0, 0)) (by (with_reducible repeat (first | refine blk_drewN ?_ _ | refine blk_drew ?_ | refine blk_alloc ?_ _)); exact BK107.out)) : gb108 ≠ gb107)); clear HO0_0; clear BK107; clear HK; clear HB; have HO0_0 := n0_; have BK107 := n1_; have HK := n2_; have HB := n3_; have BK108 := n4_; have GW108 := n5_; have GE108 := n6_; have NB107_108 := n7_; have NB108_107 := n8_; clear n0_ n1_ n2_ n3_ n4_ n5_ n6_ n7_ n8_; clear hb hbox hg; have hnb7 := NB107_108.out; have hnc7 := NB108_107.out; have hcz8_0 : w6.cell? ⟨gb107, 0, none⟩ = some (.slice Ao4 l0_0.length co4) := (blk_cell BK107.out 0).trans rfl; have hcz8_1 : w6.cell? ⟨gb107, 1, none⟩ = some (.int .i64 a0_1) := (blk_cell BK107.out 1).trans rfl; have hfz8_0 := blk_frozen BK107.out 0; have hfz8_1 := blk_frozen BK107.out 1; have hcz9_0 : w6.cell? ⟨gb108, 0, none⟩ = some (.slice none 0 0) := (blk_cell BK108.out 0).trans rfl; have hcz9_1 : w6.cell? ⟨gb108, 1, none⟩ = some (.int .i64 0) := (blk_cell BK108.out 1).trans rfl; have hfz9_0 := blk_frozen BK108.out 0; have hfz9_1 := blk_frozen BK108.out 1))
    refine bodyPost_ret (results_ct rfl _ _ gb108 27 #[.slice Ao4 l0_0.length co4, .int .i64 a0_1] (0, 0) _ rfl (by (with_reducible repeat (first | refine blk_drewN ?_ _ | refine blk_drew ?_ | refine blk_alloc ?_ _)); refine blk_put (cs := #[.slice Ao4 l0_0.length co4, .int .i64 0]) ?_ 1 _ rfl; (with_reducible repeat (first | refine blk_drewN ?_ _ | refine blk_drew ?_ | refine blk_alloc ?_ _)); refine blk_put (cs := #[.slice none 0 0, .int .i64 0]) ?_ 0 _ rfl; (with_reducible repeat (first | refine blk_drewN ?_ _ | refine blk_drew ?_ | refine blk_alloc ?_ _)); exact BK108.out) Try.underlying27 rfl (by kernel_rfl)) rfl ?_
    exact ⟨_, by first | rfl | (simp [errW_none, errW_some] <;> rfl) | (simp [*, errW_none, errW_some] <;> rfl), by (with_reducible repeat (first | apply Kd.R_alloc | apply Kd.R_drewN | apply Kd.R_drew)); exact Kd.R_mono (Kd.R_far (p := ⟨gb108, 1, none⟩) (Kd.R_far (p := ⟨gb108, 0, none⟩) (Kd.R_types HO0_0.out BK108.out (by decide)) (fun _ hk => hk.2) (.slice Ao4 l0_0.length co4)) (fun _ hk => hk.2) (.int .i64 a0_1)) (fun _ hk => hk.1), by repeat (first | (with_reducible first | exact HB.out | apply below_alloc | apply pw_below_drewN | apply below_drew1 | refine below_set ?_ GE107.out | refine below_set ?_ GE108.out) | exact HB.out), by repeat (first | (with_reducible first | exact HK.out | apply Kept.alloc | apply Kept.drewN | apply Kept.drew | refine Kept.setCell ?_ (.inr GW107.out) _ | refine Kept.setCell ?_ (.inr GW108.out) _) | exact HK.out)⟩
  · rw [if_neg c3] at H
    have c3b0 : decide (a1 < 0) = false := decide_eq_false c3
    clear c3
    by_cases c10 : a1 ≥ (l0_0.length : Int)
    · rw [if_pos c10] at H
      have c10b0 : decide ((l0_0.length : Int) ≤ a1) = true := decide_eq_true c10
      clear c10
      simp only [Option.some.injEq, Prod.mk.injEq] at H
      obtain ⟨rfl, rfl, rfl⟩ := H
      obtain ⟨Ao11, co11, eo11⟩ := Kd.R_slice HO0_0.out
      subst eo11
      go_enter Try.func29, Try.ntmps29
      go_wp2_with (first | ((with_reducible refine gate_dst (N := 2) rfl ?_); (try (refine gate_guard (by rfl) ?_; dsimp only)); refine box_event ?hg (N := 2) ?hd (cs := #[.slice Ao11 l0_0.length co11, .int .i64 a0_1]) (t := 27) ?hr ?_; (case hd => rfl); (case hg => rfl); (case hr => first | (go_simp; done) | (go_simp; rfl)); intro gb107 hg w12 hbox hb; have n0_ := Aside0.mk (Kd.R_below (by (with_reducible repeat (first | apply Kd.R_alloc | apply Kd.R_drewN | apply Kd.R_drew)); exact HO0_0.out) hb); have n1_ := Aside0.mk (Kept.below (S := (fun k_ => P0_0_ k_)) (by repeat (first | (with_reducible first | exact HK.out | apply Kept.alloc | apply Kept.drewN | apply Kept.drew) | exact HK.out)) hb); have n2_ := Aside0.mk (below_step (by repeat (first | (with_reducible first | exact HB.out | apply below_alloc | apply pw_below_drewN | apply below_drew1) | exact HB.out)) hb); have n3_ := Aside0.mk (hbox); have n4_ := Aside0.mk ((by rw [hg]; exact (by first | exact HK.out.1 | exact (show Kept w _ (fun k_ => P0_0_ k_) from by repeat (first | (with_reducible first | exact HK.out | apply Kept.alloc | apply Kept.drewN | apply Kept.drew) | exact HK.out)).1) : w.heap.size ≤ gb107)); have n5_ := Aside0.mk ((by rw [hg]; exact (below_size (by repeat (first | (with_reducible first | exact HB.out | apply below_alloc | apply pw_below_drewN | apply below_drew1) | exact HB.out))) : w0.heap.size ≤ gb107)); clear HO0_0; clear HK; clear HB; have HO0_0 := n0_; have HK := n1_; have HB := n2_; have BK107 := n3_; have GW107 := n4_; have GE107 := n5_; clear n0_ n1_ n2_ n3_ n4_ n5_; clear hb hbox hg) | ((with_reducible refine gate_dst (N := 4) rfl ?_); (try (refine gate_guard (by rfl) ?_; dsimp only)); refine box_event ?hg (N := 4) ?hd (cs := #[.slice none 0 0, .int .i64 0]) (t := 27) ?hr ?_; (case hd => rfl); (case hg => rfl); (case hr => first | (go_simp; done) | (go_simp; rfl)); intro gb108 hg w13 hbox hb; have n0_ := Aside0.mk (Kd.R_below (by (with_reducible repeat (first | apply Kd.R_alloc | apply Kd.R_drewN | apply Kd.R_drew)); exact HO0_0.out) hb); have n1_ := Aside0.mk (blk_below (g := gb107) (o := .cells #[.slice Ao11 l0_0.length co11, .int .i64 a0_1] 27 (0, 0)) (by (with_reducible repeat (first | refine blk_drewN ?_ _ | refine blk_drew ?_ | refine blk_alloc ?_ _)); exact BK107.out) hb); have n2_ := Aside0.mk (Kept.below (S := (fun k_ => P0_0_ k_)) (by repeat (first | (with_reducible first | exact HK.out | apply Kept.alloc | apply Kept.drewN | apply Kept.drew | refine Kept.setCell ?_ (.inr GW107.out) _) | exact HK.out)) hb); have n3_ := Aside0.mk (below_step (by repeat (first | (with_reducible first | exact HB.out | apply below_alloc | apply pw_below_drewN | apply below_drew1 | refine below_set ?_ GE107.out) | exact HB.out)) hb); have n4_ := Aside0.mk (hbox); have n5_ := Aside0.mk ((by rw [hg]; exact (by first | exact HK.out.1 | exact (show Kept w _ (fun k_ => P0_0_ k_) from by repeat (first | (with_reducible first | exact HK.out | apply Kept.alloc | apply Kept.drewN | apply Kept.drew | refine Kept.setCell ?_ (.inr GW107.out) _) | exact HK.out)).1) : w.heap.size ≤ gb108)); have n6_ := Aside0.mk ((by rw [hg]; exact (below_size (by repeat (first | (with_reducible first | exact HB.out | apply below_alloc | apply pw_below_drewN | apply below_drew1 | refine below_set ?_ GE107.out) | exact HB.out))) : w0.heap.size ≤ gb108)); have n7_ := Aside0.mk ((by rw [hg]; exact Nat.ne_of_lt (blk_lt (g := gb107) (o := .cells #[.slice Ao11 l0_0.length co11, .int .i64 a0_1] 27 (0, 0)) (by (with_reducible repeat (first | refine blk_drewN ?_ _ | refine blk_drew ?_ | refine blk_alloc ?_ _)); exact BK107.out)) : gb107 ≠ gb108)); have n8_ := Aside0.mk ((by rw [hg]; exact Nat.ne_of_gt (blk_lt (g := gb107) (o := .cells #[.slice Ao11 l0_0.length co11, .int .i64 a0_1] 27 (0, 0)) (by (with_reducible repeat (first | refine blk_drewN ?_ _ | refine blk_drew ?_ | refine blk_alloc ?_ _)); exact BK107.out)) : gb108 ≠ gb107)); clear HO0_0; clear BK107; clear HK; clear HB; have HO0_0 := n0_; have BK107 := n1_; have HK := n2_; have HB := n3_; have BK108 := n4_; have GW108 := n5_; have GE108 := n6_; have NB107_108 := n7_; have NB108_107 := n8_; clear n0_ n1_ n2_ n3_ n4_ n5_ n6_ n7_ n8_; clear hb hbox hg; have hnb14 := NB107_108.out; have hnc14 := NB108_107.out; have hcz15_0 : w13.cell? ⟨gb107, 0, none⟩ = some (.slice Ao11 l0_0.length co11) := (blk_cell BK107.out 0).trans rfl; have hcz15_1 : w13.cell? ⟨gb107, 1, none⟩ = some (.int .i64 a0_1) := (blk_cell BK107.out 1).trans rfl; have hfz15_0 := blk_frozen BK107.out 0; have hfz15_1 := blk_frozen BK107.out 1; have hcz16_0 : w13.cell? ⟨gb108, 0, none⟩ = some (.slice none 0 0) := (blk_cell BK108.out 0).trans rfl; have hcz16_1 : w13.cell? ⟨gb108, 1, none⟩ = some (.int .i64 0) := (blk_cell BK108.out 1).trans rfl; have hfz16_0 := blk_frozen BK108.out 0; have hfz16_1 := blk_frozen BK108.out 1))
      refine bodyPost_ret (results_ct rfl _ _ gb108 27 #[.slice Ao11 l0_0.length co11, .int .i64 a0_1] (0, 0) _ rfl (by (with_reducible repeat (first | refine blk_drewN ?_ _ | refine blk_drew ?_ | refine blk_alloc ?_ _)); refine blk_put (cs := #[.slice Ao11 l0_0.length co11, .int .i64 0]) ?_ 1 _ rfl; (with_reducible repeat (first | refine blk_drewN ?_ _ | refine blk_drew ?_ | refine blk_alloc ?_ _)); refine blk_put (cs := #[.slice none 0 0, .int .i64 0]) ?_ 0 _ rfl; (with_reducible repeat (first | refine blk_drewN ?_ _ | refine blk_drew ?_ | refine blk_alloc ?_ _)); exact BK108.out) Try.underlying27 rfl (by kernel_rfl)) rfl ?_
      exact ⟨_, by first | rfl | (simp [errW_none, errW_some] <;> rfl) | (simp [*, errW_none, errW_some] <;> rfl), by (with_reducible repeat (first | apply Kd.R_alloc | apply Kd.R_drewN | apply Kd.R_drew)); exact Kd.R_mono (Kd.R_far (p := ⟨gb108, 1, none⟩) (Kd.R_far (p := ⟨gb108, 0, none⟩) (Kd.R_types HO0_0.out BK108.out (by decide)) (fun _ hk => hk.2) (.slice Ao11 l0_0.length co11)) (fun _ hk => hk.2) (.int .i64 a0_1)) (fun _ hk => hk.1), by repeat (first | (with_reducible first | exact HB.out | apply below_alloc | apply pw_below_drewN | apply below_drew1 | refine below_set ?_ GE107.out | refine below_set ?_ GE108.out) | exact HB.out), by repeat (first | (with_reducible first | exact HK.out | apply Kept.alloc | apply Kept.drewN | apply Kept.drew | refine Kept.setCell ?_ (.inr GW107.out) _ | refine Kept.setCell ?_ (.inr GW108.out) _) | exact HK.out)⟩
    · rw [if_neg c10] at H
      have c10b0 : decide ((l0_0.length : Int) ≤ a1) = false := decide_eq_false c10
      clear c10
      by_cases c17 : 0 ≤ a1
      · rw [if_pos c17] at H
        have c17b0 : decide (0 ≤ a1) = true := decide_eq_true c17
        clear c17
        by_cases c18 : a1 < (l0_0.length : Int)
        · rw [if_pos c18] at H
          have c18b0 : decide (a1 < (l0_0.length : Int)) = true := decide_eq_true c18
          clear c18
          simp only [Option.some.injEq, Prod.mk.injEq] at H
          obtain ⟨rfl, rfl, rfl⟩ := H
          obtain ⟨Ao19, co19, eo19⟩ := Kd.R_slice HO0_0.out
          subst eo19
          go_enter Try.func29, Try.ntmps29
          try go_wp2_with (first | ((with_reducible refine gate_dst (N := 2) rfl ?_); (try (refine gate_guard (by rfl) ?_; dsimp only)); refine box_event ?hg (N := 2) ?hd (cs := #[.slice Ao19 l0_0.length co19, .int .i64 a0_1]) (t := 27) ?hr ?_; (case hd => rfl); (case hg => rfl); (case hr => first | (go_simp; done) | (go_simp; rfl)); intro gb107 hg w20 hbox hb; have n0_ := Aside0.mk (Kd.R_below (by (with_reducible repeat (first | apply Kd.R_alloc | apply Kd.R_drewN | apply Kd.R_drew)); exact HO0_0.out) hb); have n1_ := Aside0.mk (Kept.below (S := (fun k_ => P0_0_ k_)) (by repeat (first | (with_reducible first | exact HK.out | apply Kept.alloc | apply Kept.drewN | apply Kept.drew) | exact HK.out)) hb); have n2_ := Aside0.mk (below_step (by repeat (first | (with_reducible first | exact HB.out | apply below_alloc | apply pw_below_drewN | apply below_drew1) | exact HB.out)) hb); have n3_ := Aside0.mk (hbox); have n4_ := Aside0.mk ((by rw [hg]; exact (by first | exact HK.out.1 | exact (show Kept w _ (fun k_ => P0_0_ k_) from by repeat (first | (with_reducible first | exact HK.out | apply Kept.alloc | apply Kept.drewN | apply Kept.drew) | exact HK.out)).1) : w.heap.size ≤ gb107)); have n5_ := Aside0.mk ((by rw [hg]; exact (below_size (by repeat (first | (with_reducible first | exact HB.out | apply below_alloc | apply pw_below_drewN | apply below_drew1) | exact HB.out))) : w0.heap.size ≤ gb107)); clear HO0_0; clear HK; clear HB; have HO0_0 := n0_; have HK := n1_; have HB := n2_; have BK107 := n3_; have GW107 := n4_; have GE107 := n5_; clear n0_ n1_ n2_ n3_ n4_ n5_; clear hb hbox hg) | ((with_reducible refine gate_dst (N := 4) rfl ?_); (try (refine gate_guard (by rfl) ?_; dsimp only)); refine box_event ?hg (N := 4) ?hd (cs := #[.slice none 0 0, .int .i64 0]) (t := 27) ?hr ?_; (case hd => rfl); (case hg => rfl); (case hr => first | (go_simp; done) | (go_simp; rfl)); intro gb108 hg w21 hbox hb; have n0_ := Aside0.mk (Kd.R_below (by (with_reducible repeat (first | apply Kd.R_alloc | apply Kd.R_drewN | apply Kd.R_drew)); exact HO0_0.out) hb); have n1_ := Aside0.mk (blk_below (g := gb107) (o := .cells #[.slice Ao19 l0_0.length co19, .int .i64 a0_1] 27 (0, 0)) (by (with_reducible repeat (first | refine blk_drewN ?_ _ | refine blk_drew ?_ | refine blk_alloc ?_ _)); exact BK107.out) hb); have n2_ := Aside0.mk (Kept.below (S := (fun k_ => P0_0_ k_)) (by repeat (first | (with_reducible first | exact HK.out | apply Kept.alloc | apply Kept.drewN | apply Kept.drew | refine Kept.setCell ?_ (.inr GW107.out) _) | exact HK.out)) hb); have n3_ := Aside0.mk (below_step (by repeat (first | (with_reducible first | exact HB.out | apply below_alloc | apply pw_below_drewN | apply below_drew1 | refine below_set ?_ GE107.out) | exact HB.out)) hb); have n4_ := Aside0.mk (hbox); have n5_ := Aside0.mk ((by rw [hg]; exact (by first | exact HK.out.1 | exact (show Kept w _ (fun k_ => P0_0_ k_) from by repeat (first | (with_reducible first | exact HK.out | apply Kept.alloc | apply Kept.drewN | apply Kept.drew | refine Kept.setCell ?_ (.inr GW107.out) _) | exact HK.out)).1) : w.heap.size ≤ gb108)); have n6_ := Aside0.mk ((by rw [hg]; exact (below_size (by repeat (first | (with_reducible first | exact HB.out | apply below_alloc | apply pw_below_drewN | apply below_drew1 | refine below_set ?_ GE107.out) | exact HB.out))) : w0.heap.size ≤ gb108)); have n7_ := Aside0.mk ((by rw [hg]; exact Nat.ne_of_lt (blk_lt (g := gb107) (o := .cells #[.slice Ao19 l0_0.length co19, .int .i64 a0_1] 27 (0, 0)) (by (with_reducible repeat (first | refine blk_drewN ?_ _ | refine blk_drew ?_ | refine blk_alloc ?_ _)); exact BK107.out)) : gb107 ≠ gb108)); have n8_ := Aside0.mk ((by rw [hg]; exact Nat.ne_of_gt (blk_lt (g := gb107) (o := .cells #[.slice Ao19 l0_0.length co19, .int .i64 a0_1] 27 (0, 0)) (by (with_reducible repeat (first | refine blk_drewN ?_ _ | refine blk_drew ?_ | refine blk_alloc ?_ _)); exact BK107.out)) : gb108 ≠ gb107)); clear HO0_0; clear BK107; clear HK; clear HB; have HO0_0 := n0_; have BK107 := n1_; have HK := n2_; have HB := n3_; have BK108 := n4_; have GW108 := n5_; have GE108 := n6_; have NB107_108 := n7_; have NB108_107 := n8_; clear n0_ n1_ n2_ n3_ n4_ n5_ n6_ n7_ n8_; clear hb hbox hg; have hnb22 := NB107_108.out; have hnc22 := NB108_107.out; have hcz23_0 : w21.cell? ⟨gb107, 0, none⟩ = some (.slice Ao19 l0_0.length co19) := (blk_cell BK107.out 0).trans rfl; have hcz23_1 : w21.cell? ⟨gb107, 1, none⟩ = some (.int .i64 a0_1) := (blk_cell BK107.out 1).trans rfl; have hfz23_0 := blk_frozen BK107.out 0; have hfz23_1 := blk_frozen BK107.out 1))
          have n0_ : Aside0 (Kd.R (Kd.int .u64) 30 (w21.setCell ⟨gb107, 1, none⟩ (.int .i64 (wrap64 (a0_1 + 1)))) w0.heap.size (fun k_ => (P0_0_ k_ ∨ w.heap.size ≤ k_)) (.slice Ao19 l0_0.length co19) l0_0) := ⟨by (with_reducible repeat (first | apply Kd.R_alloc | apply Kd.R_drewN | apply Kd.R_drew)); exact Kd.R_mono (Kd.R_far (p := ⟨gb107, 1, none⟩) (Kd.R_types HO0_0.out BK107.out (by decide)) (fun _ hk => hk.2) (.int .i64 (wrap64 (a0_1 + 1)))) (fun _ hk => hk.1)⟩
          have n1_ : Aside0 ((w21.setCell ⟨gb107, 1, none⟩ (.int .i64 (wrap64 (a0_1 + 1)))).heap[gb107]? = some (.cells #[.slice Ao19 l0_0.length co19, .int .i64 (wrap64 (a0_1 + 1))] 27 (0, 0))) := ⟨by (with_reducible repeat (first | refine blk_drewN ?_ _ | refine blk_drew ?_ | refine blk_alloc ?_ _)); refine blk_put (cs := #[.slice Ao19 l0_0.length co19, .int .i64 a0_1]) ?_ 1 _ rfl; (with_reducible repeat (first | refine blk_drewN ?_ _ | refine blk_drew ?_ | refine blk_alloc ?_ _)); exact BK107.out⟩
          have n2_ : Aside0 ((w21.setCell ⟨gb107, 1, none⟩ (.int .i64 (wrap64 (a0_1 + 1)))).heap[gb108]? = some (.cells #[.slice none 0 0, .int .i64 0] 27 (0, 0))) := ⟨by (with_reducible repeat (first | refine blk_drewN ?_ _ | refine blk_drew ?_ | refine blk_alloc ?_ _)); refine blk_far ?_ NB108_107.out _; (with_reducible repeat (first | refine blk_drewN ?_ _ | refine blk_drew ?_ | refine blk_alloc ?_ _)); exact BK108.out⟩
          have n3_ : Aside0 (Kept w (w21.setCell ⟨gb107, 1, none⟩ (.int .i64 (wrap64 (a0_1 + 1)))) (fun k_ => P0_0_ k_)) := ⟨by repeat (first | (with_reducible first | exact HK.out | apply Kept.alloc | apply Kept.drewN | apply Kept.drew | refine Kept.setCell ?_ (.inr GW107.out) _ | refine Kept.setCell ?_ (.inr GW108.out) _) | exact HK.out)⟩
          have n4_ : Aside0 (Below w0.heap.size w0 (w21.setCell ⟨gb107, 1, none⟩ (.int .i64 (wrap64 (a0_1 + 1))))) := ⟨by repeat (first | (with_reducible first | exact HB.out | apply below_alloc | apply pw_below_drewN | apply below_drew1 | refine below_set ?_ GE107.out | refine below_set ?_ GE108.out) | exact HB.out)⟩
          (try clear HO0_0)
          (try clear BK107)
          (try clear BK108)
          (try clear HK)
          (try clear HB)
          generalize (w21.setCell ⟨gb107, 1, none⟩ (.int .i64 (wrap64 (a0_1 + 1)))) = w24 at n0_ n1_ n2_ n3_ n4_ ⊢
          have HO0_0 := n0_
          have BK107 := n1_
          have BK108 := n2_
          have HK := n3_
          have HB := n4_
          clear n0_ n1_ n2_ n3_ n4_
          have n0_ := Aside0.mk (Kd.R_drew HO0_0.out)
          have n1_ := Aside0.mk (blk_drew BK107.out)
          have n2_ := Aside0.mk (blk_drew BK108.out)
          have n3_ := Aside0.mk (Kept.drew HK.out)
          have n4_ := Aside0.mk (below_drew1 HB.out)
          clear HO0_0
          clear BK107
          clear BK108
          clear HK
          clear HB
          have HO0_0 := n0_
          have BK107 := n1_
          have BK108 := n2_
          have HK := n3_
          have HB := n4_
          clear n0_ n1_ n2_ n3_ n4_
          have p109 : 0 ≤ (a1 : Int) := of_decide_eq_true (by first | (with_reducible assumption) | assumption)
          have q109 : a1 < (l0_0.length : Int) := of_decide_eq_true (by first | (with_reducible assumption) | assumption)
          obtain ⟨ad109, e109, hx109_0⟩ := Kd.at_int (Kd.R_reads' HO0_0.out).2.2 a1 p109 q109
          cases e109
          replace p109 := eq_true p109
          replace q109 := eq_true q109
          refine start_ (n := 8) (S := fun w' => w'.cell? ⟨gb107, 0, none⟩ = some (.slice (some ad109) l0_0.length co19) ∧ w'.cell? ⟨gb107, 1, none⟩ = some (.int .i64 (wrap64 (a0_1 + 1))) ∧ w'.cell? (ad109.add (a1).toNat) = some (.int .u64 (rd l0_0 a1))) (ds := []) #[false, false, false, false, false, false, false, false] (by kernel_rfl) rfl rfl ⟨(blk_cell BK107.out 0).trans rfl, (blk_cell BK107.out 1).trans rfl, hx109_0⟩ (fun hHeld => ?_); refine with_tabW corrieref06_Load.tab4 corrieref06_Load.bits4 (fun HT_ HW_ => ?_)
          generalize w24.drew = w25 at HO0_0 BK107 BK108 HK HB hx109_0 hHeld ⊢
          refine pure_ (i := 1) (N := some 21) (v := ?_) (a' := ?_) #[false, true, false, false, false, false, false, false] rfl rfl (any_of HT_.out (by kernel_rfl)) (fun _ _ _ h => h) (Or.inl ⟨by rfl, ?_⟩) ?_ ?_
          rotate_left
          · intro w'
            go_simp
            with_reducible rfl
          rotate_left
          · simp only [Act.put, List.setIfInBounds_toArray, List.set_cons_zero, List.set_cons_succ, i64_w, i32_w]
            rfl
          refine pure_ (i := 3) (N := some 23) (v := ?_) (a' := ?_) #[false, true, false, true, false, false, false, false] rfl rfl (any_of HT_.out (by kernel_rfl)) (fun _ _ _ h => h) (Or.inl ⟨by rfl, ?_⟩) ?_ ?_
          rotate_left
          · intro w'
            go_simp
            with_reducible rfl
          rotate_left
          · simp only [Act.put, List.setIfInBounds_toArray, List.set_cons_zero, List.set_cons_succ, i64_w, i32_w]
            rfl
          refine take_ (i := 0) (N := some 20) (v := ?_) (a' := ?_) #[true, true, false, true, false, false, false, false] rfl rfl (take_ofW HT_.out HW_.out (by kernel_rfl)) (fun _ _ _ h => h) (Or.inl ⟨by rfl, ?_⟩) hHeld ?_ ?_
          rotate_left
          · rintro w' ⟨s0, s1, s2⟩
            go_simp
            with_reducible rfl
          rotate_left
          · simp only [Act.put, List.setIfInBounds_toArray, List.set_cons_zero, List.set_cons_succ, i64_w, i32_w]
            rfl
          refine take_ (i := 2) (N := some 22) (v := ?_) (a' := ?_) #[true, true, true, true, false, false, false, false] rfl rfl (take_ofW HT_.out HW_.out (by kernel_rfl)) (fun _ _ _ h => h) (Or.inl ⟨by rfl, ?_⟩) hHeld ?_ ?_
          rotate_left
          · rintro w' ⟨s0, s1, s2⟩
            go_simp
            with_reducible rfl
          rotate_left
          · simp only [Act.put, List.setIfInBounds_toArray, List.set_cons_zero, List.set_cons_succ, i64_w, i32_w]
            rfl
          refine pure_ (i := 4) (N := some 24) (v := ?_) (a' := ?_) #[true, true, true, true, true, false, false, false] rfl rfl (any_of HT_.out (by kernel_rfl)) (fun _ _ _ h => h) (Or.inl ⟨by rfl, ?_⟩) ?_ ?_
          rotate_left
          · intro w'
            go_simp
            with_reducible rfl
          rotate_left
          · simp only [Act.put, List.setIfInBounds_toArray, List.set_cons_zero, List.set_cons_succ, i64_w, i32_w]
            rfl
          refine take_ (i := 5) (N := some 25) (v := ?_) (a' := ?_) #[true, true, true, true, true, true, false, false] rfl rfl (take_ofW HT_.out HW_.out (by kernel_rfl)) (fun _ _ _ h => h) (Or.inl ⟨by rfl, ?_⟩) hHeld ?_ ?_
          rotate_left
          · rintro w' ⟨s0, s1, s2⟩
            go_simp
            with_reducible rfl
          rotate_left
          · simp only [Act.put, List.setIfInBounds_toArray, List.set_cons_zero, List.set_cons_succ, i64_w, i32_w]
            rfl
          refine one_ (i := 6) (N := none) #[true, true, true, true, true, true, true, false] rfl rfl (one_of HT_.out (by kernel_rfl)) (by decide) (fun K hK => ?_)
          have hs26 : w25.cell? ⟨gb108, 0, none⟩ = some (.slice none 0 0) := (blk_cell BK108.out 0).trans rfl
          have hfs26 := blk_frozen BK108.out 0
          have hns26_0 := NB107_108.out
          have hms26_0 := NB108_107.out
          have hs27 : w25.cell? ⟨gb108, 1, none⟩ = some (.int .i64 0) := (blk_cell BK108.out 1).trans rfl
          have hfs27 := blk_frozen BK108.out 1
          have hns27_0 := NB107_108.out
          have hms27_0 := NB108_107.out
          refine skip_ (w1 := ?_) (by rfl) rfl ?_ ?_
          rotate_left
          · go_simp
            rfl
          refine hK.out _ _ ⟨((cell_far (p := ⟨gb108, _, none⟩) NB107_108.out _).trans (((cell_far (p := ⟨gb108, _, none⟩) NB107_108.out _).trans (hHeld.1)))), ((cell_far (p := ⟨gb108, _, none⟩) NB107_108.out _).trans (((cell_far (p := ⟨gb108, _, none⟩) NB107_108.out _).trans (hHeld.2.1)))), ((cell_far (p := ⟨gb108, _, none⟩) (by first | exact Kd.own_blk (Kd.R_ne HO0_0.out BK108.out (by decide)) | (rw [add_block]; exact Kd.own_blk (Kd.R_ne HO0_0.out BK108.out (by decide))) | (show (Addr.add _ _).block ≠ _; rw [add_block]; exact Kd.own_blk (Kd.R_ne HO0_0.out BK108.out (by decide))) | (dsimp only; exact Kd.own_blk (Kd.R_ne HO0_0.out BK108.out (by decide)))) _).trans (((cell_far (p := ⟨gb108, _, none⟩) (by first | exact Kd.own_blk (Kd.R_ne HO0_0.out BK108.out (by decide)) | (rw [add_block]; exact Kd.own_blk (Kd.R_ne HO0_0.out BK108.out (by decide))) | (show (Addr.add _ _).block ≠ _; rw [add_block]; exact Kd.own_blk (Kd.R_ne HO0_0.out BK108.out (by decide))) | (dsimp only; exact Kd.own_blk (Kd.R_ne HO0_0.out BK108.out (by decide)))) _).trans (hHeld.2.2))))⟩ (fun hHeld => ?_)
          clear hK K
          refine pure_ (i := 7) (N := some 5) (v := ?_) (a' := ?_) #[true, true, true, true, true, true, true, true] rfl rfl (any_of HT_.out (by kernel_rfl)) (fun _ _ _ h => h) (Or.inl ⟨by rfl, ?_⟩) ?_ ?_
          rotate_left
          · intro w'
            go_simp
            with_reducible rfl
          rotate_left
          · simp only [Act.put, List.setIfInBounds_toArray, List.set_cons_zero, List.set_cons_succ, i64_w, i32_w]
            rfl
          refine done_ (done_of HT_.out (by kernel_rfl)) ?_
          try go_wp2
          refine bodyPost_ret (results_ct rfl _ _ gb108 27 #[.slice (some ad109) l0_0.length co19, .int .i64 (wrap64 (a0_1 + 1))] (0, 0) _ rfl (by (with_reducible repeat (first | refine blk_drewN ?_ _ | refine blk_drew ?_ | refine blk_alloc ?_ _)); refine blk_put (cs := #[.slice (some ad109) l0_0.length co19, .int .i64 0]) ?_ 1 _ rfl; (with_reducible repeat (first | refine blk_drewN ?_ _ | refine blk_drew ?_ | refine blk_alloc ?_ _)); refine blk_put (cs := #[.slice none 0 0, .int .i64 0]) ?_ 0 _ rfl; (with_reducible repeat (first | refine blk_drewN ?_ _ | refine blk_drew ?_ | refine blk_alloc ?_ _)); exact BK108.out) Try.underlying27 rfl (by kernel_rfl)) rfl ?_
          exact ⟨_, by first | rfl | (simp [errW_none, errW_some] <;> rfl) | (simp [*, errW_none, errW_some] <;> rfl), by (with_reducible repeat (first | apply Kd.R_alloc | apply Kd.R_drewN | apply Kd.R_drew)); exact Kd.R_mono (Kd.R_far (p := ⟨gb108, 1, none⟩) (Kd.R_far (p := ⟨gb108, 0, none⟩) (Kd.R_types HO0_0.out BK108.out (by decide)) (fun _ hk => hk.2) (.slice (some ad109) l0_0.length co19)) (fun _ hk => hk.2) (.int .i64 (wrap64 (a0_1 + 1)))) (fun _ hk => hk.1), by repeat (first | (with_reducible first | exact HB.out | apply below_alloc | apply pw_below_drewN | apply below_drew1 | refine below_set ?_ GE107.out | refine below_set ?_ GE108.out) | exact HB.out), by repeat (first | (with_reducible first | exact HK.out | apply Kept.alloc | apply Kept.drewN | apply Kept.drew | refine Kept.setCell ?_ (.inr GW107.out) _ | refine Kept.setCell ?_ (.inr GW108.out) _) | exact HK.out)⟩
        · rw [if_neg c18] at H
          exact absurd H (by simp)
      · rw [if_neg c17] at H
        exact absurd H (by simp)

end Go.Proofs.Ytpcmoclohepdiaa.PCellsLast
