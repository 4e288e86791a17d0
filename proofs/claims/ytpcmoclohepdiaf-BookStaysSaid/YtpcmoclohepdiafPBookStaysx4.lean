-- Written by a program of this session: a variant of the print that takes proofs by hand (wip/tools/mkprint.py)
import Derived.Test.YtpcmoclohepdiafPBookStaysx0
import Derived.Test.YtpcmoclohepdiafPBookStaysx1
import Derived.Test.YtpcmoclohepdiafPBookStaysx2
import Derived.Test.YtpcmoclohepdiafPBookStaysx3
namespace Go.Proofs.Ytpcmoclohepdiaf.PBookStays
open Go.RowKit Go.Proofs.YtpcmoclohepdiafW.PrintWords Go.Proofs.YtpcmoclohepdiafW.PrintLast
set_option linter.unusedVariables false
set_option linter.unusedSimpArgs false

/-! ### corrielaw07_awake: function 8 (by hand) -/
theorem snocInd {α : Type} {motive : List α → Prop} (nil : motive []) (snoc : ∀ l x, motive l → motive (l ++ [x])) (l : List α) : motive l := by
 have h : ∀ r : List α, motive r.reverse := by
  intro r
  induction r with
  | nil => exact nil
  | cons x t ih => rw [List.reverse_cons]; exact snoc _ _ ih
 have := h l.reverse
 rwa [List.reverse_reverse] at this
structure Touch (S : Nat → Prop) (w w' : World) : Prop where
 os : w'.os = w.os
 tape : w'.tape = w.tape
 output : w'.output = w.output
 size : w.heap.size ≤ w'.heap.size
 block : ∀ k, k < w.heap.size → ¬ S k → w'.heap[k]? = w.heap[k]?
theorem Touch.refl (S : Nat → Prop) (w : World) : Touch S w w := ⟨rfl, rfl, rfl, Nat.le_refl _, fun _ _ _ => rfl⟩
theorem Touch.trans {S : Nat → Prop} {a b c : World} (h : Touch S a b) (k : Touch S b c) : Touch S a c :=
 ⟨k.os.trans h.os, k.tape.trans h.tape, k.output.trans h.output, Nat.le_trans h.size k.size, fun j hj hs => (k.block j (Nat.lt_of_lt_of_le hj h.size) hs).trans (h.block j hj hs)⟩
theorem Touch.mono {S T : Nat → Prop} {a b : World} (h : Touch S a b) (hst : ∀ k, S k → T k) : Touch T a b := ⟨h.os, h.tape, h.output, h.size, fun j hj hs => h.block j hj (fun h => hs (hst j h))⟩
theorem Touch.of_below {S : Nat → Prop} {a b : World} (h : Below a.heap.size a b) : Touch S a b := ⟨h.os, h.tape, h.output, h.size, fun j hj _ => h.block j hj⟩
theorem Touch.below {S : Nat → Prop} {a b : World} {N : Nat} (h : Touch S a b) (hN : N ≤ a.heap.size) (hs : ∀ k, S k → N ≤ k) : Below N a b :=
 ⟨h.os, h.tape, h.output, h.size, fun k hk => h.block k (by omega) (fun h => by have := hs k h; omega)⟩
theorem Touch.alloc {S : Nat → Prop} {w0 w : World} (h : Touch S w0 w) (o : Obj) : Touch S w0 (w.alloc o) := h.trans (.of_below (below_alloc (Below.refl _ _) o))
theorem Touch.set {S : Nat → Prop} {w0 w : World} (h : Touch S w0 w) {g i : Nat} (hg : S g ∨ w0.heap.size ≤ g) (v : Value) : Touch S w0 (w.setCell ⟨g, i, none⟩ v) :=
 ⟨h.os, h.tape, h.output, Nat.le_trans h.size (by simp), fun k hk hs => (Below.heap_setCell w ⟨g, i, none⟩ v k (fun e => by subst e; exact hg.elim hs (fun h => by omega))).trans (h.block k hk hs)⟩
theorem Touch.grown {S : Nat → Prop} {w0 w w1 : World} (h : Touch S w0 w) {g : Nat} (k : w.grownBy w1 (some g)) (hg : S g ∨ w0.heap.size ≤ g) : Touch S w0 w1 :=
 ⟨k.os.trans h.os, k.tape.trans h.tape, k.output.trans h.output, Nat.le_trans h.size k.size, fun j hj hs => (k.block j (Nat.lt_of_lt_of_le hj h.size) (fun e => by cases e; exact hg.elim hs (fun h => by omega))).trans (h.block j hj hs)⟩
theorem cel_put {w : World} {g i : Nat} {cs : Array Value} {t : TypeId} {fr : Nat × Nat} (h : w.heap[g]? = some (.cells cs t fr)) (v : Value) : (w.setCell ⟨g, i, none⟩ v).heap[g]? = some (.cells (cs.setIfInBounds i v) t fr) := by
 rw [setCell_eq_setRow w g i cs t fr v h]
 exact setRow_heap w g cs _ t fr h
theorem cel_far {w : World} {g k i : Nat} {o : Obj} (h : w.heap[k]? = some o) (hne : k ≠ g) (v : Value) : (w.setCell ⟨g, i, none⟩ v).heap[k]? = some o := (Below.heap_setCell w ⟨g, i, none⟩ v k hne).trans h
def hvH (v : Value) : Option (DataW Value × List MemPlace) := some (.held v, [])
def kL (k : Int) : Lit := .int .i64 k
def dmap (m : List (Int × Value)) : DataW Value := m.foldl (fun D x => D.put (kL x.1) (.held x.2)) (.map [])
def lkL (m : List (Int × Value)) (k : Int) : Option Value := m.foldl (fun r x => if x.1 = k then some x.2 else r) none
theorem dmap_snoc (m : List (Int × Value)) (x : Int × Value) : dmap (m ++ [x]) = (dmap m).put (kL x.1) (.held x.2) := by unfold dmap; rw [List.foldl_append]; rfl
theorem lkL_snoc (m : List (Int × Value)) (x : Int × Value) (k : Int) : lkL (m ++ [x]) k = if x.1 = k then some x.2 else lkL m k := by unfold lkL; rw [List.foldl_append]; rfl
theorem dmap_isMap (m : List (Int × Value)) : Maps.IsMap (dmap m) := by
 induction m using snocInd with
 | nil => exact Maps.isMap_empty
 | snoc m x ih => rw [dmap_snoc]; exact ih.put _ _
theorem kL_ne {a b : Int} (h : a ≠ b) : kL a ≠ kL b := fun e => h (by unfold kL at e; injection e)
theorem dmap_look (m : List (Int × Value)) (k : Int) (z : Value) : (dmap m).atKey (kL k) (.held z) = .held ((lkL m k).getD z) ∧ Maps.has (dmap m) (kL k) = (lkL m k).isSome := by
 induction m using snocInd with
 | nil => exact ⟨rfl, rfl⟩
 | snoc m x ih =>
  rw [dmap_snoc, lkL_snoc]
  by_cases e : x.1 = k
  ·have hk : WideAt.IsKeyLit (kL k) := trivial
   rw [if_pos e, e, Maps.atKey_put_same (dmap_isMap m) hk, Maps.has_put_same (dmap_isMap m) hk]
   exact ⟨rfl, rfl⟩
  ·rw [if_neg e, Maps.atKey_put_other (kL_ne (Ne.symm e)), Maps.has_put_other (kL_ne (Ne.symm e))]
   exact ih
theorem wpList_lookup_held {P : Program} (w : World) {ops : Array Oper} {rest : List Oper} {o : Oper} {a : Act} {Q : Exit → Act → World → Prop} (hg : o.guard = none) (m x : Operand) (t : TypeId) (hop : o.op = Op.lookup t m x true)
  (k e : TypeId) (K : Maps.Keyed P k) (ht : P.underlying t = some (.map k e)) {z : Value} (hz : ∀ w, (zeroValue e).run P w = .ok z w) (b n : Nat) (ms : List (Int × Value))
  (hm : a.eval m = .map (some b)) (hown : w.ownsMap P k hvH b n (dmap ms)) (key : Int) (hx : a.eval x = .int .i64 key) (hkey : keyOf P k (.int .i64 key) = some (kL key)) (r : Option Value) (hr : lkL ms key = r)
  (hK : wpList P ops Q rest (a.put o.dst (.tuple #[r.getD z, .bool r.isSome])) w) :
  wpList P ops Q (o :: rest) a w := by
 have hd := dmap_look ms key z
 rw [hr] at hd
 refine wpList_lookup_own_ok w hg m x t hop k e K ht hvH (hz w) (.held z) [] rfl b n (dmap ms) hm hown (.int .i64 key) (kL key) hx hkey (fun v ps hv2 => ?_)
 have e1 : v = r.getD z := by
  have : DataW.held v = DataW.held (r.getD z) := by
   have h2 := congrArg Prod.fst (Option.some.inj hv2)
   exact h2.trans hd.1
  injection this
 rw [e1, hd.2]
 exact hK
structure RB where
 c : S23
 calls : List Int
 ins : List Int
 made : List Int
 ops : List S60
 nodes : List S62
def vC (x : S38) : Value := .agg #[.int .i64 x.f0, .int .u64 x.f1, .int .u64 x.f2, .int .i64 x.f3]
def mapO (l : List S60) : List (Int × Value) := l.map (fun x => (x.f0, vC x.f1))
def mapN (l : List S62) : List (Int × Value) := l.map (fun x => (x.f0, .int .i64 x.f1))
def opOf (l : List S60) (k : Int) : Option S38 := l.foldl (fun r x => if x.f0 = k then some x.f1 else r) none
def ndOf (l : List S62) (k : Int) : Option Int := l.foldl (fun r x => if x.f0 = k then some x.f1 else r) none
theorem lkO (l : List S60) (k : Int) : lkL (mapO l) k = (opOf l k).map vC := by
 induction l using snocInd with
 | nil => rfl
 | snoc l x ih =>
  have h1 : mapO (l ++ [x]) = mapO l ++ [(x.f0, vC x.f1)] := by simp [mapO]
  have h2 : opOf (l ++ [x]) k = if x.f0 = k then some x.f1 else opOf l k := by unfold opOf; rw [List.foldl_append]; rfl
  rw [h1, lkL_snoc, h2, ih]
  dsimp only
  split <;> rfl
theorem lkN (l : List S62) (k : Int) : lkL (mapN l) k = (ndOf l k).map (Value.int .i64) := by
 induction l using snocInd with
 | nil => rfl
 | snoc l x ih =>
  have h1 : mapN (l ++ [x]) = mapN l ++ [(x.f0, .int .i64 x.f1)] := by simp [mapN]
  have h2 : ndOf (l ++ [x]) k = if x.f0 = k then some x.f1 else ndOf l k := by unfold ndOf; rw [List.foldl_append]; rfl
  rw [h1, lkL_snoc, h2, ih]
  dsimp only
  split <;> rfl
structure BookAt (w : World) (p gt go gn : Nat) (b : RB) : Prop where
 p : w.heap[p]? = some (.cells #[.int .i64 b.c.f0, .int .i64 b.c.f1, .int .i64 b.c.f2, .int .i64 b.c.f3, .int .i64 b.c.f4, .slice (some ⟨gt, 0, none⟩) b.calls.length b.calls.length, .map (some go), .map (some gn)] 76 (0, 0))
 t : ∃ cs : Array Value, w.heap[gt]? = some (.cells cs 84 (0, 0)) ∧ cs.size = b.calls.length * 3 ∧ ∀ i (h : i < b.calls.length), cs[i * 3]? = some (.int .i64 b.calls[i]) ∧ cs[i * 3 + 1]? = some (.int .i64 (b.ins.getD i 0)) ∧ cs[i * 3 + 2]? = some (.int .i64 (b.made.getD i 0))
 o : w.ownsMap Try.prog 3 hvH go b.ops.length (dmap (mapO b.ops))
 n : w.ownsMap Try.prog 3 hvH gn b.nodes.length (dmap (mapN b.nodes))
 li : b.ins.length = b.calls.length
 lm : b.made.length = b.calls.length
 small : b.calls.length ≤ 8 ∧ b.ops.length ≤ 100000 ∧ b.nodes.length ≤ 100000
 ne : go ≠ gn
theorem BookAt.below {w w1 : World} {p gt go gn : Nat} {b : RB} (h : BookAt w p gt go gn b) (hb : Below w.heap.size w w1) : BookAt w1 p gt go gn b := by
 obtain ⟨cs, h1, h2⟩ := h.t
 exact ⟨blk_below h.p hb, ⟨cs, blk_below h1 hb, h2⟩, h.o.kept (row := none) ⟨hb.os, hb.tape, hb.output, hb.size, fun k hk _ => hb.block k hk⟩ (by simp), h.n.kept (row := none) ⟨hb.os, hb.tape, hb.output, hb.size, fun k hk _ => hb.block k hk⟩ (by simp), h.li, h.lm, h.small, h.ne⟩
theorem BookAt.lt {w : World} {p gt go gn : Nat} {b : RB} (h : BookAt w p gt go gn b) : p < w.heap.size ∧ gt < w.heap.size ∧ go < w.heap.size ∧ gn < w.heap.size := by
 obtain ⟨cs, h1, h2⟩ := h.t
 exact ⟨blk_lt h.p, blk_lt h1, h.o.lt, h.n.lt⟩
theorem BookAt.apart {w : World} {p gt go gn : Nat} {b : RB} (h : BookAt w p gt go gn b) : p ≠ gt ∧ p ≠ go ∧ p ≠ gn ∧ gt ≠ go ∧ gt ≠ gn := by
 obtain ⟨cs, h1, h2⟩ := h.t
 obtain ⟨es, cl, ho, _⟩ := h.o
 obtain ⟨es2, cl2, hn, _⟩ := h.n
 have hp := h.p
 refine ⟨?_, ?_, ?_, ?_, ?_⟩
 ·rintro rfl; rw [h1] at hp; injection hp with hp; injection hp with _ hp; revert hp; decide
 ·rintro rfl; rw [ho] at hp; cases hp
 ·rintro rfl; rw [hn] at hp; cases hp
 ·rintro rfl; rw [ho] at h1; cases h1
 ·rintro rfl; rw [hn] at h1; cases h1
set_option maxHeartbeats 8000000 in
set_option maxRecDepth 100000 in
theorem bk_thread_in (p gt go gn : Nat) (b : RB) (i : Nat) (hi : i < b.calls.length) (w : World) (h : BookAt w p gt go gn b) :
  Calls Try.prog 31 #[.pointer (some ⟨p, 0, none⟩), .int .i64 (i : Int)] w fun e w' => e = .returned (.pointer (some ⟨gt, i * 3, none⟩)) ∧ w' = w := by
 have h0 := (blk_cell h.p 5).trans rfl
 have c1 : (i : Int) < (b.calls.length : Int) := by omega
 have c2 : (0 : Int) ≤ (i : Int) := by omega
 go_enter Try.func31, Try.ntmps31
 go_wp2
 go_ret
 exact ⟨rfl, rfl⟩
set_option maxHeartbeats 8000000 in
set_option maxRecDepth 100000 in
theorem bk_thread_out (p gt go gn : Nat) (b : RB) (i : Int) (hi : i < 0 ∨ (b.calls.length : Int) ≤ i) (w : World) (h : BookAt w p gt go gn b) :
  Calls Try.prog 31 #[.pointer (some ⟨p, 0, none⟩), .int .i64 i] w fun e w' => e = .returned (.pointer none) ∧ w' = w := by
 have h0 := (blk_cell h.p 5).trans rfl
 rcases hi with c1 | c1
 ·have c1b : decide (i < 0) = true := decide_eq_true c1
  go_enter Try.func31, Try.ntmps31
  go_wp2
  go_ret
  exact ⟨rfl, rfl⟩
 ·have c2 : ¬ i < 0 := by omega
  go_enter Try.func31, Try.ntmps31
  go_wp2
  go_ret
  exact ⟨rfl, rfl⟩
set_option maxHeartbeats 8000000 in
set_option maxRecDepth 100000 in
theorem bk_thread_nil (i : Int) (w : World) :
  Calls Try.prog 31 #[.pointer none, .int .i64 i] w fun e w' => e = .returned (.pointer none) ∧ w' = w := by
 go_enter Try.func31, Try.ntmps31
 go_wp2
 go_ret
 exact ⟨rfl, rfl⟩
def cnt (l : List Int) (n : Int) : Int := if 0 ≤ n ∧ n < (l.length : Int) then l.getD n.toNat 0 else 0
theorem zv_call (w : World) : (zeroValue 38).run Try.prog w = .ok (vC z38) w := by kernel_rfl
theorem zv_int (w : World) : (zeroValue 3).run Try.prog w = .ok (.int .i64 0) w := by kernel_rfl
theorem kd_int : Maps.Keyed Try.prog 3 := Maps.int_keyed Try.underlying3
theorem BookAt.counts {w : World} {p gt go gn : Nat} {b : RB} (h : BookAt w p gt go gn b) (i : Nat) (hi : i < b.calls.length) :
  w.cell? ⟨gt, i * 3, none⟩ = some (.int .i64 (b.calls.getD i 0)) ∧ w.cell? ⟨gt, i * 3 + 1, none⟩ = some (.int .i64 (b.ins.getD i 0)) ∧ w.cell? ⟨gt, i * 3 + 2, none⟩ = some (.int .i64 (b.made.getD i 0)) := by
 obtain ⟨cs, h1, h2, h3⟩ := h.t
 obtain ⟨k0, k1, k2⟩ := h3 i hi
 refine ⟨(blk_cell h1 _).trans ?_, (blk_cell h1 _).trans k1, (blk_cell h1 _).trans k2⟩
 rw [k0]
 simp [List.getD, hi]
set_option maxHeartbeats 8000000 in
set_option maxRecDepth 100000 in
theorem bk_Calls (p gt go gn : Nat) (b : RB) (n : Int) (w : World) (h : BookAt w p gt go gn b) :
  Calls Try.prog 19 #[.pointer (some ⟨p, 0, none⟩), .int .i64 n] w fun e w' => e = .returned (.int .i64 (cnt b.calls n)) ∧ w' = w := by
 by_cases c : 0 ≤ n ∧ n < (b.calls.length : Int)
 ·obtain ⟨i, rfl⟩ : ∃ i : Nat, n = (i : Int) := ⟨n.toNat, by omega⟩
  have hi : i < b.calls.length := by omega
  have e0 : cnt b.calls (i : Int) = b.calls.getD i 0 := by unfold cnt; rw [if_pos c]; rfl
  rw [e0]
  obtain ⟨c0, _, _⟩ := h.counts i hi
  generalize b.calls.getD i 0 = x at c0 ⊢
  have HT := Aside0.mk (bk_thread_in p gt go gn b i hi w h)
  clear c
  go_enter Try.func19, Try.ntmps19
  go_wp2_with (go_at_call 31; (with_reducible refine HT.out.mono ?_); rintro e w1 ⟨rfl, rfl⟩)
  go_ret
  exact ⟨rfl, rfl⟩
 ·have e0 : cnt b.calls n = 0 := by unfold cnt; rw [if_neg c]
  rw [e0]
  have HT := Aside0.mk (bk_thread_out p gt go gn b n (by omega) w h)
  clear c
  go_enter Try.func19, Try.ntmps19
  go_wp2_with (go_at_call 31; (with_reducible refine HT.out.mono ?_); rintro e w1 ⟨rfl, rfl⟩)
  go_ret
  exact ⟨rfl, rfl⟩
set_option maxHeartbeats 8000000 in
set_option maxRecDepth 100000 in
theorem bk_Made (p gt go gn : Nat) (b : RB) (n : Int) (w : World) (h : BookAt w p gt go gn b) :
  Calls Try.prog 20 #[.pointer (some ⟨p, 0, none⟩), .int .i64 n] w fun e w' => e = .returned (.int .i64 (cnt b.made n)) ∧ w' = w := by
 by_cases c : 0 ≤ n ∧ n < (b.calls.length : Int)
 ·obtain ⟨i, rfl⟩ : ∃ i : Nat, n = (i : Int) := ⟨n.toNat, by omega⟩
  have hi : i < b.calls.length := by omega
  have e0 : cnt b.made (i : Int) = b.made.getD i 0 := by unfold cnt; rw [h.lm, if_pos c]; rfl
  rw [e0]
  obtain ⟨_, _, c0⟩ := h.counts i hi
  generalize b.made.getD i 0 = x at c0 ⊢
  have HT := Aside0.mk (bk_thread_in p gt go gn b i hi w h)
  clear c
  go_enter Try.func20, Try.ntmps20
  go_wp2_with (go_at_call 31; (with_reducible refine HT.out.mono ?_); rintro e w1 ⟨rfl, rfl⟩)
  go_ret
  exact ⟨rfl, rfl⟩
 ·have e0 : cnt b.made n = 0 := by unfold cnt; rw [h.lm, if_neg c]
  rw [e0]
  have HT := Aside0.mk (bk_thread_out p gt go gn b n (by omega) w h)
  clear c
  go_enter Try.func20, Try.ntmps20
  go_wp2_with (go_at_call 31; (with_reducible refine HT.out.mono ?_); rintro e w1 ⟨rfl, rfl⟩)
  go_ret
  exact ⟨rfl, rfl⟩
def ndR (r : Option Int) : Int := r.getD (-1)
set_option maxHeartbeats 8000000 in
set_option maxRecDepth 100000 in
theorem bk_Carried (p gt go gn : Nat) (b : RB) (k : Int) (hk : (Lit.int .i64 k).wf = true) (w : World) (h : BookAt w p gt go gn b) :
  Calls Try.prog 15 #[.pointer (some ⟨p, 0, none⟩), .int .i64 k] w fun e w' => e = .returned (.int .i64 (ndR (ndOf b.nodes k))) ∧ w' = w := by
 have h0 := (blk_cell h.p 7).trans rfl
 have hkey := Maps.keyOf_int_mk (P := Try.prog) Try.underlying3 hk
 have hO := Aside0.mk h.n
 have hlk := lkN b.nodes k
 cases hr : ndOf b.nodes k with
 | none =>
  rw [hr] at hlk
  have HL := Aside0.mk hlk
  have HK := Aside0.mk hkey
  clear hlk hr hk hkey
  go_enter Try.func15, Try.ntmps15
  go_wp2_with (at_lookup; refine wpList_lookup_held _ rfl _ _ 74 rfl 3 3 kd_int Try.underlying74 zv_int gn b.nodes.length (mapN b.nodes) rfl hO.out k rfl HK.out none HL.out ?_)
  go_ret
  exact ⟨rfl, rfl⟩
 | some x =>
  rw [hr] at hlk
  have HL := Aside0.mk hlk
  have HK := Aside0.mk hkey
  clear hlk hr hk hkey
  go_enter Try.func15, Try.ntmps15
  go_wp2_with (at_lookup; refine wpList_lookup_held _ rfl _ _ 74 rfl 3 3 kd_int Try.underlying74 zv_int gn b.nodes.length (mapN b.nodes) rfl hO.out k rfl HK.out (some (.int .i64 x)) HL.out ?_)
  go_ret
  exact ⟨rfl, rfl⟩
def opC (r : Option S38) : S38 := r.getD z38
def opE (r : Option S38) : Int := if r.isSome then 0 else 4
set_option maxHeartbeats 8000000 in
set_option maxRecDepth 100000 in
theorem bk_Call (p gt go gn : Nat) (b : RB) (k : Int) (hk : (Lit.int .i64 k).wf = true) (w : World) (h : BookAt w p gt go gn b) :
  Calls Try.prog 12 #[.pointer (some ⟨p, 0, none⟩), .int .i64 k] w fun e w' => e = .returned (.tuple #[vC (opC (opOf b.ops k)), .int .i64 (opE (opOf b.ops k))]) ∧ Below w.heap.size w w' := by
 have h0 := (blk_cell h.p 6).trans rfl
 have hp := h.lt.1
 have hkey := Maps.keyOf_int_mk (P := Try.prog) Try.underlying3 hk
 have hO := Aside0.mk h.o
 have hlk := lkO b.ops k
 cases hr : opOf b.ops k with
 | none =>
  rw [hr] at hlk
  have HL := Aside0.mk hlk
  have HK := Aside0.mk hkey
  clear hlk hr hk hkey
  unfold opC opE vC
  dsimp only [Option.getD, Option.isSome]
  go_enter Try.func12, Try.ntmps12
  go_wp2_with (at_lookup; refine wpList_lookup_held _ rfl _ _ 73 rfl 3 38 kd_int Try.underlying73 zv_call go b.ops.length (mapO b.ops) rfl (hO.out.alloc _) k rfl HK.out none HL.out ?_; unfold vC; dsimp only [Option.getD, Option.map, Option.isSome])
  exact bodyPost_ret (v := .tuple #[.agg #[.int .i64 0, .int .u64 0, .int .u64 0, .int .i64 0], .int .i64 4]) (by simp [results, Try.results12, go_sem]) rfl ⟨rfl, below_alloc (below_alloc (Below.refl _ _) _) _⟩
 | some x =>
  rw [hr] at hlk
  have HL := Aside0.mk hlk
  have HK := Aside0.mk hkey
  clear hlk hr hk hkey
  unfold opC opE vC
  dsimp only [Option.getD, Option.isSome]
  go_enter Try.func12, Try.ntmps12
  go_wp2_with (at_lookup; refine wpList_lookup_held _ rfl _ _ 73 rfl 3 38 kd_int Try.underlying73 zv_call go b.ops.length (mapO b.ops) rfl (hO.out.alloc _) k rfl HK.out (some (vC x)) HL.out ?_; unfold vC; dsimp only [Option.getD, Option.map, Option.isSome])
  exact bodyPost_ret (v := .tuple #[.agg #[.int .i64 x.f0, .int .u64 x.f1, .int .u64 x.f2, .int .i64 x.f3], .int .i64 0]) (by simp [results, Try.results12, go_sem]) rfl ⟨rfl, below_alloc (below_alloc (Below.refl _ _) _) _⟩
set_option maxHeartbeats 8000000 in
set_option maxRecDepth 100000 in
theorem bk_Key (p gt go gn : Nat) (b : RB) (k : Int) (hk : (Lit.int .i64 k).wf = true) (hk2 : (Lit.int .i64 (ndR (ndOf b.nodes k))).wf = true) (w : World) (h : BookAt w p gt go gn b) :
  Calls Try.prog 17 #[.pointer (some ⟨p, 0, none⟩), .int .i64 k] w fun e w' => e = .returned (.int .u64 (opC (opOf b.ops (ndR (ndOf b.nodes k)))).f1) ∧ Below w.heap.size w w' := by
 have H1 := Aside0.mk (bk_Carried p gt go gn b k hk w h)
 have H2 := Aside0.mk (bk_Call p gt go gn b (ndR (ndOf b.nodes k)) hk2 w h)
 generalize ndR (ndOf b.nodes k) = m at H1 H2 ⊢
 generalize opC (opOf b.ops m) = x at H2 ⊢
 generalize opE (opOf b.ops m) = y at H2 ⊢
 clear hk hk2 h
 unfold vC at H2
 go_enter Try.func17, Try.ntmps17
 go_wp2_with (first | (go_at_call 15; (with_reducible refine H1.out.mono ?_); rintro e w1 ⟨rfl, rfl⟩) | (go_at_call 12; (with_reducible refine H2.out.mono ?_); rintro e w1 ⟨rfl, hb⟩; have HB := Aside0.mk hb; clear hb))
 go_ret
 exact ⟨rfl, HB.out.trans (below_alloc (Below.refl _ _) _ |>.mono HB.out.size)⟩
set_option maxHeartbeats 8000000 in
set_option maxRecDepth 100000 in
theorem bk_Calls_nil (n : Int) (w : World) : Calls Try.prog 19 #[.pointer none, .int .i64 n] w fun e w' => e = .returned (.int .i64 0) ∧ w' = w := by
 go_enter Try.func19, Try.ntmps19
 go_wp2_with (go_at_call 31; (with_reducible refine (bk_thread_nil n _).mono ?_); rintro e w1 ⟨rfl, rfl⟩)
 go_ret
 exact ⟨rfl, rfl⟩
set_option maxHeartbeats 8000000 in
set_option maxRecDepth 100000 in
theorem bk_Made_nil (n : Int) (w : World) : Calls Try.prog 20 #[.pointer none, .int .i64 n] w fun e w' => e = .returned (.int .i64 0) ∧ w' = w := by
 go_enter Try.func20, Try.ntmps20
 go_wp2_with (go_at_call 31; (with_reducible refine (bk_thread_nil n _).mono ?_); rintro e w1 ⟨rfl, rfl⟩)
 go_ret
 exact ⟨rfl, rfl⟩
set_option maxHeartbeats 8000000 in
set_option maxRecDepth 100000 in
theorem bk_Carried_nil (n : Int) (w : World) : Calls Try.prog 15 #[.pointer none, .int .i64 n] w fun e w' => e = .returned (.int .i64 (-1)) ∧ w' = w := by
 go_enter Try.func15, Try.ntmps15
 go_wp2
 go_ret
 exact ⟨rfl, rfl⟩
set_option maxHeartbeats 8000000 in
set_option maxRecDepth 100000 in
theorem bk_Call_nil (n : Int) (w : World) : Calls Try.prog 12 #[.pointer none, .int .i64 n] w fun e w' => e = .returned (.tuple #[.agg #[.int .i64 0, .int .u64 0, .int .u64 0, .int .i64 0], .int .i64 1]) ∧ Below w.heap.size w w' := by
 go_enter Try.func12, Try.ntmps12
 go_wp2
 exact bodyPost_ret (v := .tuple #[.agg #[.int .i64 0, .int .u64 0, .int .u64 0, .int .i64 0], .int .i64 1]) (by simp [results, Try.results12, go_sem]) rfl ⟨rfl, below_alloc (Below.refl _ _) _⟩
set_option maxHeartbeats 8000000 in
set_option maxRecDepth 100000 in
theorem bk_Key_nil (n : Int) (w : World) : Calls Try.prog 17 #[.pointer none, .int .i64 n] w fun e w' => e = .returned (.int .u64 0) ∧ Below w.heap.size w w' := by
 go_enter Try.func17, Try.ntmps17
 go_wp2_with (first | (go_at_call 15; (with_reducible refine (bk_Carried_nil n _).mono ?_); rintro e w1 ⟨rfl, rfl⟩) | (go_at_call 12; (with_reducible refine (bk_Call_nil (-1) _).mono ?_); rintro e w1 ⟨rfl, hb⟩; have HB := Aside0.mk hb; clear hb))
 go_ret
 exact ⟨rfl, HB.out.trans (below_alloc (Below.refl _ _) _ |>.mono HB.out.size)⟩
theorem BookAt.cntc {w : World} {p gt go gn : Nat} {b : RB} (h : BookAt w p gt go gn b) (i : Nat) (hi : i < b.calls.length) {cc : Int} (hc : b.calls.getD i 0 = cc) : w.cell? ⟨gt, i * 3, none⟩ = some (.int .i64 cc) := by rw [← hc]; exact (h.counts i hi).1
theorem BookAt.cnti {w : World} {p gt go gn : Nat} {b : RB} (h : BookAt w p gt go gn b) (i : Nat) (hi : i < b.calls.length) {cc : Int} (hc : b.ins.getD i 0 = cc) : w.cell? ⟨gt, i * 3 + 1, none⟩ = some (.int .i64 cc) := by rw [← hc]; exact (h.counts i hi).2.1
theorem BookAt.cntm {w : World} {p gt go gn : Nat} {b : RB} (h : BookAt w p gt go gn b) (i : Nat) (hi : i < b.calls.length) {cc : Int} (hc : b.made.getD i 0 = cc) : w.cell? ⟨gt, i * 3 + 2, none⟩ = some (.int .i64 cc) := by rw [← hc]; exact (h.counts i hi).2.2
theorem BookAt.frz {w : World} {p gt go gn : Nat} {b : RB} (h : BookAt w p gt go gn b) (j : Nat) : w.frozen? ⟨gt, j, none⟩ = false := by obtain ⟨cs, h1, _⟩ := h.t; exact blk_frozen h1 j
theorem BookAt.drew {w : World} {p gt go gn : Nat} {b : RB} (h : BookAt w p gt go gn b) : BookAt w.drew p gt go gn b := ⟨h.p, h.t, h.o, h.n, h.li, h.lm, h.small, h.ne⟩
theorem Touch.drew {S : Nat → Prop} {w0 w : World} (h : Touch S w0 w) : Touch S w0 w.drew := ⟨h.os, h.tape, h.output, h.size, h.block⟩
theorem put_held {P : Program} {ops : Array Oper} {Q : Exit → Act → World → Prop} {oi : Oper} {a : Act} {w : World} {K : Act → World → Prop} (hw : Region.wanted oi (yielded ops a.tmps) = true) (hN : oi.dst = none) (m x v : Operand) (t : TypeId) (hop : oi.op = Op.mapUpdate t m x v)
  (k e : TypeId) (KD : Maps.Keyed P k) (ht : P.underlying t = some (.map k e)) (b n : Nat) (ms : List (Int × Value)) (hm : a.eval m = .map (some b)) (hown : w.ownsMap P k hvH b n (dmap ms)) (hn : n < maxLen) (key : Int) (hx : a.eval x = .int .i64 key) (hkey : keyOf P k (.int .i64 key) = some (kL key))
  (val : Value) (hvH' : a.eval v = val) (h : ∀ w', w'.ownsMap P k hvH b (n + 1) (dmap (ms ++ [(key, val)])) → w.grownBy w' (some b) → K a w') :
  if Region.wanted oi (yielded ops a.tmps) = true then Oper.wp P oi a w K Q else K (a.put none undef) w := by
 obtain ⟨w', hrun, r1, r2⟩ := hown.update KD ht hn (val := val) (d := .held val) (ps := []) hkey rfl
 refine skip_ (w1 := w') hw hN ?_ (h w' (by rw [dmap_snoc]; exact r1) r2)
 unfold execOp
 simp [hop, hm, hx, hvH', hrun, Result.andThen]
theorem blkc4 {w : World} {g t : Nat} {v0 v1 v2 v3 : Value} (h : w.heap[g]? = some (.cells #[v0, v1, v2, v3] t (0, 0))) : w.cell? ⟨g, 0, none⟩ = some v0 ∧ w.cell? ⟨g, 1, none⟩ = some v1 ∧ w.cell? ⟨g, 2, none⟩ = some v2 ∧ w.cell? ⟨g, 3, none⟩ = some v3 :=
 ⟨(blk_cell h 0).trans rfl, (blk_cell h 1).trans rfl, (blk_cell h 2).trans rfl, (blk_cell h 3).trans rfl⟩
theorem blkf4 {w : World} {g t : Nat} {cs : Array Value} (h : w.heap[g]? = some (.cells cs t (0, 0))) : w.frozen? ⟨g, 0, none⟩ = false ∧ w.frozen? ⟨g, 1, none⟩ = false ∧ w.frozen? ⟨g, 2, none⟩ = false ∧ w.frozen? ⟨g, 3, none⟩ = false :=
 ⟨blk_frozen h 0, blk_frozen h 1, blk_frozen h 2, blk_frozen h 3⟩
theorem blkc5 {w : World} {g t : Nat} {v0 v1 v2 v3 v4 : Value} (h : w.heap[g]? = some (.cells #[v0, v1, v2, v3, v4] t (0, 0))) : w.cell? ⟨g, 0, none⟩ = some v0 ∧ w.cell? ⟨g, 1, none⟩ = some v1 ∧ w.cell? ⟨g, 2, none⟩ = some v2 ∧ w.cell? ⟨g, 3, none⟩ = some v3 ∧ w.cell? ⟨g, 4, none⟩ = some v4 :=
 ⟨(blk_cell h 0).trans rfl, (blk_cell h 1).trans rfl, (blk_cell h 2).trans rfl, (blk_cell h 3).trans rfl, (blk_cell h 4).trans rfl⟩
theorem blkf5 {w : World} {g t : Nat} {cs : Array Value} (h : w.heap[g]? = some (.cells cs t (0, 0))) : w.frozen? ⟨g, 0, none⟩ = false ∧ w.frozen? ⟨g, 1, none⟩ = false ∧ w.frozen? ⟨g, 2, none⟩ = false ∧ w.frozen? ⟨g, 3, none⟩ = false ∧ w.frozen? ⟨g, 4, none⟩ = false :=
 ⟨blk_frozen h 0, blk_frozen h 1, blk_frozen h 2, blk_frozen h 3, blk_frozen h 4⟩
theorem blkc7 {w : World} {g t : Nat} {v0 v1 v2 v3 v4 v5 v6 : Value} (h : w.heap[g]? = some (.cells #[v0, v1, v2, v3, v4, v5, v6] t (0, 0))) : w.cell? ⟨g, 0, none⟩ = some v0 ∧ w.cell? ⟨g, 1, none⟩ = some v1 ∧ w.cell? ⟨g, 2, none⟩ = some v2 ∧ w.cell? ⟨g, 3, none⟩ = some v3 ∧ w.cell? ⟨g, 4, none⟩ = some v4 ∧ w.cell? ⟨g, 5, none⟩ = some v5 ∧ w.cell? ⟨g, 6, none⟩ = some v6 :=
 ⟨(blk_cell h 0).trans rfl, (blk_cell h 1).trans rfl, (blk_cell h 2).trans rfl, (blk_cell h 3).trans rfl, (blk_cell h 4).trans rfl, (blk_cell h 5).trans rfl, (blk_cell h 6).trans rfl⟩
theorem blkf7 {w : World} {g t : Nat} {cs : Array Value} (h : w.heap[g]? = some (.cells cs t (0, 0))) : w.frozen? ⟨g, 0, none⟩ = false ∧ w.frozen? ⟨g, 1, none⟩ = false ∧ w.frozen? ⟨g, 2, none⟩ = false ∧ w.frozen? ⟨g, 3, none⟩ = false ∧ w.frozen? ⟨g, 4, none⟩ = false ∧ w.frozen? ⟨g, 5, none⟩ = false ∧ w.frozen? ⟨g, 6, none⟩ = false :=
 ⟨blk_frozen h 0, blk_frozen h 1, blk_frozen h 2, blk_frozen h 3, blk_frozen h 4, blk_frozen h 5, blk_frozen h 6⟩
theorem blkc10 {w : World} {g t : Nat} {v0 v1 v2 v3 v4 v5 v6 v7 v8 v9 : Value} (h : w.heap[g]? = some (.cells #[v0, v1, v2, v3, v4, v5, v6, v7, v8, v9] t (0, 0))) : w.cell? ⟨g, 0, none⟩ = some v0 ∧ w.cell? ⟨g, 1, none⟩ = some v1 ∧ w.cell? ⟨g, 2, none⟩ = some v2 ∧ w.cell? ⟨g, 3, none⟩ = some v3 ∧ w.cell? ⟨g, 4, none⟩ = some v4 ∧ w.cell? ⟨g, 5, none⟩ = some v5 ∧ w.cell? ⟨g, 6, none⟩ = some v6 ∧ w.cell? ⟨g, 7, none⟩ = some v7 ∧ w.cell? ⟨g, 8, none⟩ = some v8 ∧ w.cell? ⟨g, 9, none⟩ = some v9 :=
 ⟨(blk_cell h 0).trans rfl, (blk_cell h 1).trans rfl, (blk_cell h 2).trans rfl, (blk_cell h 3).trans rfl, (blk_cell h 4).trans rfl, (blk_cell h 5).trans rfl, (blk_cell h 6).trans rfl, (blk_cell h 7).trans rfl, (blk_cell h 8).trans rfl, (blk_cell h 9).trans rfl⟩
theorem blkf10 {w : World} {g t : Nat} {cs : Array Value} (h : w.heap[g]? = some (.cells cs t (0, 0))) : w.frozen? ⟨g, 0, none⟩ = false ∧ w.frozen? ⟨g, 1, none⟩ = false ∧ w.frozen? ⟨g, 2, none⟩ = false ∧ w.frozen? ⟨g, 3, none⟩ = false ∧ w.frozen? ⟨g, 4, none⟩ = false ∧ w.frozen? ⟨g, 5, none⟩ = false ∧ w.frozen? ⟨g, 6, none⟩ = false ∧ w.frozen? ⟨g, 7, none⟩ = false ∧ w.frozen? ⟨g, 8, none⟩ = false ∧ w.frozen? ⟨g, 9, none⟩ = false :=
 ⟨blk_frozen h 0, blk_frozen h 1, blk_frozen h 2, blk_frozen h 3, blk_frozen h 4, blk_frozen h 5, blk_frozen h 6, blk_frozen h 7, blk_frozen h 8, blk_frozen h 9⟩
def RB.called (b : RB) (i : Nat) : RB := { b with calls := b.calls.set i (b.calls.getD i 0 + 1) }
def RB.inserted (b : RB) (i : Nat) : RB := { b with ins := b.ins.set i (b.ins.getD i 0 + 1) }
def RB.mades (b : RB) (i : Nat) : RB := { b with made := b.made.set i (b.made.getD i 0 + 1) }
def RB.addOp (b : RB) (op : Int) (x : S38) : RB := { b with ops := b.ops ++ [⟨op, x⟩] }
def RB.addNode (b : RB) (nd op : Int) : RB := { b with nodes := b.nodes ++ [⟨nd, op⟩] }
theorem getD_set (l : List Int) (i j : Nat) (v : Int) (h : j < l.length) : (l.set i v).getD j 0 = if i = j then v else l.getD j 0 := by
 by_cases e : i = j
 ·subst e
  rw [if_pos rfl]
  simp [List.getD, h]
 ·rw [if_neg e]
  simp [List.getD, e]
theorem BookAt.called {w : World} {p gt go gn : Nat} {b : RB} (h : BookAt w p gt go gn b) (i : Nat) (hi : i < b.calls.length) : BookAt (w.setCell ⟨gt, i * 3, none⟩ (.int .i64 (b.calls.getD i 0 + 1))) p gt go gn (b.called i) := by
 obtain ⟨cs, h1, h2, h3⟩ := h.t
 obtain ⟨a1, a2, a3, a4, a5⟩ := h.apart
 have hl : (b.called i).calls.length = b.calls.length := by simp [RB.called]
 refine ⟨?_, ⟨_, cel_put h1 _, by rw [Array.size_setIfInBounds, h2, hl], fun j hj => ?_⟩, h.o.setCell (Ne.symm a4) _, h.n.setCell (Ne.symm a5) _, by rw [hl]; exact h.li, by rw [hl]; exact h.lm, ⟨by rw [hl]; exact h.small.1, h.small.2⟩, h.ne⟩
 ·rw [hl]
  exact cel_far h.p a1 _
 ·rw [hl] at hj
  obtain ⟨k0, k1, k2⟩ := h3 j hj
  refine ⟨?_, ?_, ?_⟩
  ·by_cases e : i = j
   ·subst e
    rw [Array.getElem?_setIfInBounds_self_of_lt (by omega)]
    simp [RB.called]
   ·rw [Array.getElem?_setIfInBounds_ne (by omega), k0]
    simp [RB.called, e]
  ·rw [Array.getElem?_setIfInBounds_ne (by omega)]
   exact k1
  ·rw [Array.getElem?_setIfInBounds_ne (by omega)]
   exact k2
theorem BookAt.inserted {w : World} {p gt go gn : Nat} {b : RB} (h : BookAt w p gt go gn b) (i : Nat) (hi : i < b.calls.length) : BookAt (w.setCell ⟨gt, i * 3 + 1, none⟩ (.int .i64 (b.ins.getD i 0 + 1))) p gt go gn (b.inserted i) := by
 obtain ⟨cs, h1, h2, h3⟩ := h.t
 obtain ⟨a1, a2, a3, a4, a5⟩ := h.apart
 have hl := h.li
 refine ⟨cel_far h.p a1 _, ⟨_, cel_put h1 _, by rw [Array.size_setIfInBounds, h2]; rfl, fun j hj => ?_⟩, h.o.setCell (Ne.symm a4) _, h.n.setCell (Ne.symm a5) _, by simp [RB.inserted, h.li], h.lm, h.small, h.ne⟩
 have hj' : j < b.calls.length := hj
 obtain ⟨k0, k1, k2⟩ := h3 j hj'
 refine ⟨?_, ?_, ?_⟩
 ·rw [Array.getElem?_setIfInBounds_ne (by omega)]
  exact k0
 ·show _ = some (Value.int .i64 ((b.ins.set i (b.ins.getD i 0 + 1)).getD j 0))
  rw [getD_set _ _ _ _ (by omega)]
  by_cases e : i = j
  ·subst e
   rw [Array.getElem?_setIfInBounds_self_of_lt (by omega), if_pos rfl]
  ·rw [Array.getElem?_setIfInBounds_ne (by omega), k1, if_neg e]
 ·rw [Array.getElem?_setIfInBounds_ne (by omega)]
  exact k2
theorem BookAt.mades {w : World} {p gt go gn : Nat} {b : RB} (h : BookAt w p gt go gn b) (i : Nat) (hi : i < b.calls.length) : BookAt (w.setCell ⟨gt, i * 3 + 2, none⟩ (.int .i64 (b.made.getD i 0 + 1))) p gt go gn (b.mades i) := by
 obtain ⟨cs, h1, h2, h3⟩ := h.t
 obtain ⟨a1, a2, a3, a4, a5⟩ := h.apart
 have hl := h.lm
 refine ⟨cel_far h.p a1 _, ⟨_, cel_put h1 _, by rw [Array.size_setIfInBounds, h2]; rfl, fun j hj => ?_⟩, h.o.setCell (Ne.symm a4) _, h.n.setCell (Ne.symm a5) _, h.li, by simp [RB.mades, h.lm], h.small, h.ne⟩
 have hj' : j < b.calls.length := hj
 obtain ⟨k0, k1, k2⟩ := h3 j hj'
 refine ⟨?_, ?_, ?_⟩
 ·rw [Array.getElem?_setIfInBounds_ne (by omega)]
  exact k0
 ·rw [Array.getElem?_setIfInBounds_ne (by omega)]
  exact k1
 ·show _ = some (Value.int .i64 ((b.made.set i (b.made.getD i 0 + 1)).getD j 0))
  rw [getD_set _ _ _ _ (by omega)]
  by_cases e : i = j
  ·subst e
   rw [Array.getElem?_setIfInBounds_self_of_lt (by omega), if_pos rfl]
  ·rw [Array.getElem?_setIfInBounds_ne (by omega), k2, if_neg e]
theorem BookAt.addOp {w w' : World} {p gt go gn : Nat} {b : RB} (h : BookAt w p gt go gn b) (op : Int) (x : S38) (ho : w'.ownsMap Try.prog 3 hvH go (b.ops.length + 1) (dmap (mapO b.ops ++ [(op, vC x)]))) (hg : w.grownBy w' (some go)) (hs : b.ops.length < 100000) : BookAt w' p gt go gn (b.addOp op x) := by
 obtain ⟨cs, h1, h2, h3⟩ := h.t
 obtain ⟨a1, a2, a3, a4, a5⟩ := h.apart
 have ne : ∀ k, k ≠ go → some k ≠ some go := fun k hk e => hk (by injection e)
 refine ⟨(hg.block p (blk_lt h.p) (ne _ a2)).trans h.p, ⟨cs, (hg.block gt (blk_lt h1) (ne _ a4)).trans h1, h2, h3⟩, ?_, h.n.kept hg (ne _ (Ne.symm h.ne)), h.li, h.lm, ⟨h.small.1, by simp [RB.addOp]; omega, h.small.2.2⟩, h.ne⟩
 have e1 : mapO (b.addOp op x).ops = mapO b.ops ++ [(op, vC x)] := by simp [RB.addOp, mapO]
 rw [e1]
 exact ho.mono (by simp [RB.addOp])
theorem BookAt.addNode {w w' : World} {p gt go gn : Nat} {b : RB} (h : BookAt w p gt go gn b) (nd op : Int) (ho : w'.ownsMap Try.prog 3 hvH gn (b.nodes.length + 1) (dmap (mapN b.nodes ++ [(nd, .int .i64 op)]))) (hg : w.grownBy w' (some gn)) (hs : b.nodes.length < 100000) : BookAt w' p gt go gn (b.addNode nd op) := by
 obtain ⟨cs, h1, h2, h3⟩ := h.t
 obtain ⟨a1, a2, a3, a4, a5⟩ := h.apart
 have ne : ∀ k, k ≠ gn → some k ≠ some gn := fun k hk e => hk (by injection e)
 refine ⟨(hg.block p (blk_lt h.p) (ne _ a3)).trans h.p, ⟨cs, (hg.block gt (blk_lt h1) (ne _ a5)).trans h1, h2, h3⟩, h.o.kept hg (ne _ h.ne), ?_, h.li, h.lm, ⟨h.small.1, h.small.2.1, by simp [RB.addNode]; omega⟩, h.ne⟩
 have e1 : mapN (b.addNode nd op).nodes = mapN b.nodes ++ [(nd, .int .i64 op)] := by simp [RB.addNode, mapN]
 rw [e1]
 exact ho.mono (by simp [RB.addNode])
def lb_ (n m : Nat) : Array Bool := ((List.range n).map (fun i => m.testBit i)).toArray
def bk_Begin.T4 : Bool × List (List Nat × List Nat) := (true, [([], []), ([0], [0]), ([1], [1]), ([2], [2]), ([3], [3]), ([], []), ([5], [5]), ([6], [6]), ([7], [7]), ([8], [8]), ([4, 9], [4, 9]), ([10], [10])])
def bk_Begin.B4 : List Nat := [0, 1, 3, 7, 15, 0, 32, 96, 224, 480, 1023, 2047]
theorem bk_Begin.tab4 : rtab .any (opsOf Try.f24 4) = bk_Begin.T4 := by kernel_rfl
theorem bk_Begin.bits4 : waitsOk bk_Begin.T4.2 bk_Begin.B4 = true := by kernel_rfl
def bk_Begin.T6 : Bool × List (List Nat × List Nat) := (true, [([], []), ([0], [0]), ([1], [1]), ([2], [2]), ([], []), ([], []), ([5], [5]), ([6], [6]), ([7], [7]), ([8], [8]), ([3, 4, 9], [3, 4, 9]), ([10, 10, 0, 1, 2, 3, 4, 5, 6, 7, 8, 9, 10], [10])])
def bk_Begin.B6 : List Nat := [0, 1, 3, 7, 0, 0, 32, 96, 224, 480, 1023, 2047]
theorem bk_Begin.tab6 : rtab .any (opsOf Try.f24 6) = bk_Begin.T6 := by kernel_rfl
theorem bk_Begin.bits6 : waitsOk bk_Begin.T6.2 bk_Begin.B6 = true := by kernel_rfl
def bk_Begin.T9 : Bool × List (List Nat × List Nat) := (true, [([], []), ([0], [0]), ([1], [1]), ([2], [2]), ([3], [3]), ([], []), ([5], [5]), ([6], [6]), ([7], [7]), ([8], [8]), ([4, 9], [4, 9])])
def bk_Begin.B9 : List Nat := [0, 1, 3, 7, 15, 0, 32, 96, 224, 480, 1023]
theorem bk_Begin.tab9 : rtab .any (opsOf Try.f24 9) = bk_Begin.T9 := by kernel_rfl
theorem bk_Begin.bits9 : waitsOk bk_Begin.T9.2 bk_Begin.B9 = true := by kernel_rfl
def bk_Begin.T12 : Bool × List (List Nat × List Nat) := (true, [([], []), ([0], [0]), ([1], [1]), ([2], [2]), ([], []), ([], []), ([3, 4, 5, 0, 1, 2, 3, 4, 5], [3, 4, 5])])
def bk_Begin.B12 : List Nat := [0, 1, 3, 7, 0, 0, 63]
theorem bk_Begin.tab12 : rtab .any (opsOf Try.f24 12) = bk_Begin.T12 := by kernel_rfl
theorem bk_Begin.bits12 : waitsOk bk_Begin.T12.2 bk_Begin.B12 = true := by kernel_rfl
set_option maxHeartbeats 8000000 in
set_option maxRecDepth 100000 in
theorem bk_Begin_bad (p gt go gn : Nat) (b : RB) (i : Nat) (hi : i < b.calls.length) (x : S38) (hk : x.f0 < 1 ∨ 4 < x.f0) (w : World) (h : BookAt w p gt go gn (b)) :
  Calls Try.prog 24 #[.pointer (some ⟨p, 0, none⟩), .int .i64 (i : Int), .agg #[.int .i64 x.f0, .int .u64 x.f1, .int .u64 x.f2, .int .i64 x.f3]] w fun e w' => e = .returned (.tuple #[.int .i64 0, .int .i64 1]) ∧ BookAt w' p gt go gn (b) ∧ Touch (fun k => k = gt ∨ k = go) w w' := by
 have HLT := Aside0.mk h.lt
 have HA := Aside0.mk h
 have HI := Aside0.mk hi
 have HT := Aside0.mk (Touch.refl (fun k => k = gt ∨ k = go) w)
 clear h hi
 rcases hk with hk | hk
 ·have hkb : decide (x.f0 < 1) = true := decide_eq_true hk
  go_enter Try.func24, Try.ntmps24
  go_wp2_with (first | ((with_reducible refine gate_dst (N := 5) rfl ?_); refine box_event ?hg (N := 5) ?hd (cs := #[.int .i64 x.f0, .int .u64 x.f1, .int .u64 x.f2, .int .i64 x.f3]) (t := 38) ?hr ?_; (case hd => rfl); (case hg => rfl); (case hr => first | (go_simp; done) | (go_simp; rfl)); intro g5 hg w5 hbox hbk; have B5 := Aside0.mk hbox; have n_HA := Aside0.mk (HA.out.below hbk); have n_HT := Aside0.mk (HT.out.trans (.of_below hbk)); clear HA HT; have HA := n_HA; have HT := n_HT; clear n_HA n_HT; have c5_0 : w5.cell? ⟨g5, 0, none⟩ = some (.int .i64 x.f0) := (blk_cell B5.out 0).trans rfl; have HG := Aside0.mk (show g5 = w.heap.size from hg); have HG5 := Aside0.mk (blk_lt B5.out); clear hbk hbox hg) | (go_at_call 31; (with_reducible refine (bk_thread_in p gt go gn b i HI.out _ HA.out).mono ?_); rintro e w1 ⟨rfl, rfl⟩))
  go_ret2
  exact ⟨rfl, HA.out, HT.out⟩
 ·have hk1 : ¬ x.f0 < 1 := by omega
  have hkb : decide (4 < x.f0) = true := decide_eq_true hk
  go_enter Try.func24, Try.ntmps24
  go_wp2_with (first | ((with_reducible refine gate_dst (N := 5) rfl ?_); refine box_event ?hg (N := 5) ?hd (cs := #[.int .i64 x.f0, .int .u64 x.f1, .int .u64 x.f2, .int .i64 x.f3]) (t := 38) ?hr ?_; (case hd => rfl); (case hg => rfl); (case hr => first | (go_simp; done) | (go_simp; rfl)); intro g5 hg w5 hbox hbk; have B5 := Aside0.mk hbox; have n_HA := Aside0.mk (HA.out.below hbk); have n_HT := Aside0.mk (HT.out.trans (.of_below hbk)); clear HA HT; have HA := n_HA; have HT := n_HT; clear n_HA n_HT; have c5_0 : w5.cell? ⟨g5, 0, none⟩ = some (.int .i64 x.f0) := (blk_cell B5.out 0).trans rfl; have HG := Aside0.mk (show g5 = w.heap.size from hg); have HG5 := Aside0.mk (blk_lt B5.out); clear hbk hbox hg) | (go_at_call 31; (with_reducible refine (bk_thread_in p gt go gn b i HI.out _ HA.out).mono ?_); rintro e w1 ⟨rfl, rfl⟩))
  go_ret2
  exact ⟨rfl, HA.out, HT.out⟩
set_option maxHeartbeats 8000000 in
set_option maxRecDepth 100000 in
theorem bk_Begin_ret (p gt go gn : Nat) (b : RB) (i : Nat) (hi : i < b.calls.length) (x : S38) (hk1 : ¬ x.f0 < 1) (hk4 : ¬ 4 < x.f0) (cc : Int) (hcc : b.calls.getD i 0 = cc) (hc : cc = b.c.f4) (w : World) (h : BookAt w p gt go gn (b)) :
  Calls Try.prog 24 #[.pointer (some ⟨p, 0, none⟩), .int .i64 (i : Int), .agg #[.int .i64 x.f0, .int .u64 x.f1, .int .u64 x.f2, .int .i64 x.f3]] w fun e w' => e = .returned (.tuple #[.int .i64 0, .int .i64 2]) ∧ BookAt w' p gt go gn (b) ∧ Touch (fun k => k = gt ∨ k = go) w w' := by
 have HLT := Aside0.mk h.lt
 have HA := Aside0.mk h
 have HI := Aside0.mk hi
 have HT := Aside0.mk (Touch.refl (fun k => k = gt ∨ k = go) w)
 clear h hi
 have HCC := Aside0.mk hcc
 clear hcc
 have hcb : (cc == b.c.f4) = true := beq_iff_eq.2 hc
 clear hc
 go_enter Try.func24, Try.ntmps24
 go_upto_region 4 with (first | ((with_reducible refine gate_dst (N := 5) rfl ?_); refine box_event ?hg (N := 5) ?hd (cs := #[.int .i64 x.f0, .int .u64 x.f1, .int .u64 x.f2, .int .i64 x.f3]) (t := 38) ?hr ?_; (case hd => rfl); (case hg => rfl); (case hr => first | (go_simp; done) | (go_simp; rfl)); intro g5 hg w5 hbox hbk; have B5 := Aside0.mk hbox; have n_HA := Aside0.mk (HA.out.below hbk); have n_HT := Aside0.mk (HT.out.trans (.of_below hbk)); clear HA HT; have HA := n_HA; have HT := n_HT; clear n_HA n_HT; have c5_0 : w5.cell? ⟨g5, 0, none⟩ = some (.int .i64 x.f0) := (blk_cell B5.out 0).trans rfl; have HG := Aside0.mk (show g5 = w.heap.size from hg); have HG5 := Aside0.mk (blk_lt B5.out); clear hbk hbox hg) | (go_at_call 31; (with_reducible refine (bk_thread_in p gt go gn b i HI.out _ HA.out).mono ?_); rintro e w1 ⟨rfl, rfl⟩))
 clear c5_0
 have n_HA := Aside0.mk (HA.out.drew)
 have n_B5 := Aside0.mk (blk_drew B5.out)
 have n_HT := Aside0.mk (HT.out.drew)
 clear HA B5 HT
 have HA := n_HA
 have B5 := n_B5
 have HT := n_HT
 clear n_HA n_B5 n_HT
 refine start_ (n := 12) (S := fun w' => w'.cell? ⟨gt, i * 3, none⟩ = some (.int .i64 cc) ∧ w'.cell? ⟨p, 4, none⟩ = some (.int .i64 b.c.f4)) (ds := []) #[false, false, false, false, false, false, false, false, false, false, false, false] (by kernel_rfl) rfl rfl ⟨(HA.out.cntc i HI.out HCC.out), ((blk_cell HA.out.p 4).trans rfl)⟩ (fun hHeld => ?_); refine with_tabW bk_Begin.tab4 bk_Begin.bits4 (fun HT_ HW_ => ?_)
 generalize w1.drew = W1 at HA B5 HT hHeld ⊢
 refine pure_ (i := 0) (N := some 27) (v := ?_) (a' := ?_) (lb_ 12 1) rfl rfl (any_of HT_.out (by kernel_rfl)) (fun _ _ _ h => h) (Or.inl ⟨by rfl, ?_⟩) ?_ ?_; rotate_left
 ·intro w'; go_simp; with_reducible rfl
 rotate_left
 ·simp only [Act.put, List.setIfInBounds_toArray, List.set_cons_zero, List.set_cons_succ, i64_w, i32_w]; rfl
 refine pure_ (i := 1) (N := some 28) (v := ?_) (a' := ?_) (lb_ 12 3) rfl rfl (any_of HT_.out (by kernel_rfl)) (fun _ _ _ h => h) (Or.inl ⟨by rfl, ?_⟩) ?_ ?_; rotate_left
 ·intro w'; go_simp; with_reducible rfl
 rotate_left
 ·simp only [Act.put, List.setIfInBounds_toArray, List.set_cons_zero, List.set_cons_succ, i64_w, i32_w]; rfl
 refine pure_ (i := 2) (N := some 29) (v := ?_) (a' := ?_) (lb_ 12 7) rfl rfl (any_of HT_.out (by kernel_rfl)) (fun _ _ _ h => h) (Or.inl ⟨by rfl, ?_⟩) ?_ ?_; rotate_left
 ·intro w'; go_simp; with_reducible rfl
 rotate_left
 ·simp only [Act.put, List.setIfInBounds_toArray, List.set_cons_zero, List.set_cons_succ, i64_w, i32_w]; rfl
 refine pure_ (i := 3) (N := some 30) (v := ?_) (a' := ?_) (lb_ 12 15) rfl rfl (any_of HT_.out (by kernel_rfl)) (fun _ _ _ h => h) (Or.inl ⟨by rfl, ?_⟩) ?_ ?_; rotate_left
 ·intro w'; go_simp; with_reducible rfl
 rotate_left
 ·simp only [Act.put, List.setIfInBounds_toArray, List.set_cons_zero, List.set_cons_succ, i64_w, i32_w]; rfl
 refine pure_ (i := 5) (N := some 32) (v := ?_) (a' := ?_) (lb_ 12 47) rfl rfl (any_of HT_.out (by kernel_rfl)) (fun _ _ _ h => h) (Or.inl ⟨by rfl, ?_⟩) ?_ ?_; rotate_left
 ·intro w'; go_simp; with_reducible rfl
 rotate_left
 ·simp only [Act.put, List.setIfInBounds_toArray, List.set_cons_zero, List.set_cons_succ, i64_w, i32_w]; rfl
 refine pure_ (i := 6) (N := some 33) (v := ?_) (a' := ?_) (lb_ 12 111) rfl rfl (any_of HT_.out (by kernel_rfl)) (fun _ _ _ h => h) (Or.inl ⟨by rfl, ?_⟩) ?_ ?_; rotate_left
 ·intro w'; go_simp; with_reducible rfl
 rotate_left
 ·simp only [Act.put, List.setIfInBounds_toArray, List.set_cons_zero, List.set_cons_succ, i64_w, i32_w]; rfl
 refine pure_ (i := 7) (N := some 34) (v := ?_) (a' := ?_) (lb_ 12 239) rfl rfl (any_of HT_.out (by kernel_rfl)) (fun _ _ _ h => h) (Or.inl ⟨by rfl, ?_⟩) ?_ ?_; rotate_left
 ·intro w'; go_simp; with_reducible rfl
 rotate_left
 ·simp only [Act.put, List.setIfInBounds_toArray, List.set_cons_zero, List.set_cons_succ, i64_w, i32_w]; rfl
 refine pure_ (i := 8) (N := some 35) (v := ?_) (a' := ?_) (lb_ 12 495) rfl rfl (any_of HT_.out (by kernel_rfl)) (fun _ _ _ h => h) (Or.inl ⟨by rfl, ?_⟩) ?_ ?_; rotate_left
 ·intro w'; go_simp; with_reducible rfl
 rotate_left
 ·simp only [Act.put, List.setIfInBounds_toArray, List.set_cons_zero, List.set_cons_succ, i64_w, i32_w]; rfl
 refine take_ (i := 4) (N := some 31) (v := ?_) (a' := ?_) (lb_ 12 511) rfl rfl (take_ofW HT_.out HW_.out (by kernel_rfl)) (fun _ _ _ h => h) (Or.inl ⟨by rfl, ?_⟩) hHeld ?_ ?_; rotate_left
 ·rintro w' ⟨s0, s1⟩; go_simp; with_reducible rfl
 rotate_left
 ·simp only [Act.put, List.setIfInBounds_toArray, List.set_cons_zero, List.set_cons_succ, i64_w, i32_w]; rfl
 refine take_ (i := 9) (N := some 36) (v := ?_) (a' := ?_) (lb_ 12 1023) rfl rfl (take_ofW HT_.out HW_.out (by kernel_rfl)) (fun _ _ _ h => h) (Or.inl ⟨by rfl, ?_⟩) hHeld ?_ ?_; rotate_left
 ·rintro w' ⟨s0, s1⟩; go_simp; with_reducible rfl
 rotate_left
 ·simp only [Act.put, List.setIfInBounds_toArray, List.set_cons_zero, List.set_cons_succ, i64_w, i32_w]; rfl
 refine pure_ (i := 10) (N := some 37) (v := ?_) (a' := ?_) (lb_ 12 2047) rfl rfl (any_of HT_.out (by kernel_rfl)) (fun _ _ _ h => h) (Or.inl ⟨by rfl, ?_⟩) ?_ ?_; rotate_left
 ·intro w'; go_simp; with_reducible rfl
 rotate_left
 ·simp only [Act.put, List.setIfInBounds_toArray, List.set_cons_zero, List.set_cons_succ, i64_w, i32_w]; rfl
 refine pure_ (i := 11) (N := some 26) (v := ?_) (a' := ?_) (lb_ 12 4095) rfl rfl (any_of HT_.out (by kernel_rfl)) (fun _ _ _ h => h) (Or.inl ⟨by rfl, ?_⟩) ?_ ?_; rotate_left
 ·intro w'; go_simp; with_reducible rfl
 rotate_left
 ·simp only [Act.put, List.setIfInBounds_toArray, List.set_cons_zero, List.set_cons_succ, i64_w, i32_w]; rfl
 refine done_ (done_of HT_.out (by kernel_rfl)) ?_
 go_wp2
 go_ret2
 exact ⟨rfl, HA.out, HT.out⟩
set_option maxHeartbeats 8000000 in
set_option maxRecDepth 100000 in
theorem bk_Begin_full (p gt go gn : Nat) (b : RB) (i : Nat) (hi : i < b.calls.length) (x : S38) (hk1 : ¬ x.f0 < 1) (hk4 : ¬ 4 < x.f0) (cc : Int) (hcc : b.calls.getD i 0 = cc) (hc : ¬ cc = b.c.f4) (hb0 : 0 ≤ cc) (hb1 : cc ≤ 1000) (op : Int) (hop : ∀ W, Calls Try.prog 33 #[.agg #[.int .i64 b.c.f0, .int .i64 b.c.f1, .int .i64 b.c.f2, .int .i64 b.c.f3, .int .i64 b.c.f4], .int .i64 (i : Int), .int .i64 cc] W (fun e w' => e = .returned (.int .i64 op) ∧ Below W.heap.size W w')) (ii : Int) (hii : b.ins.getD i 0 = ii) (hk : x.f0 = 1) (hin : ii = b.c.f2) (w : World) (h : BookAt w p gt go gn (b)) :
  Calls Try.prog 24 #[.pointer (some ⟨p, 0, none⟩), .int .i64 (i : Int), .agg #[.int .i64 x.f0, .int .u64 x.f1, .int .u64 x.f2, .int .i64 x.f3]] w fun e w' => e = .returned (.tuple #[.int .i64 0, .int .i64 3]) ∧ BookAt w' p gt go gn (b.called i) ∧ Touch (fun k => k = gt ∨ k = go) w w' := by
 have HLT := Aside0.mk h.lt
 have HA := Aside0.mk h
 have HI := Aside0.mk hi
 have HT := Aside0.mk (Touch.refl (fun k => k = gt ∨ k = go) w)
 clear h hi
 have HCC := Aside0.mk hcc
 clear hcc
 have HII := Aside0.mk hii
 clear hii
 have hcb : (cc == b.c.f4) = false := beq_eq_false_iff_ne.2 hc
 clear hc
 have HOP := Aside0.mk hop
 clear hop
 have hkb : (x.f0 == 1) = true := beq_iff_eq.2 hk
 clear hk
 have hinb : (ii == b.c.f2) = true := beq_iff_eq.2 hin
 clear hin
 go_enter Try.func24, Try.ntmps24
 go_upto_region 4 with (first | ((with_reducible refine gate_dst (N := 5) rfl ?_); refine box_event ?hg (N := 5) ?hd (cs := #[.int .i64 x.f0, .int .u64 x.f1, .int .u64 x.f2, .int .i64 x.f3]) (t := 38) ?hr ?_; (case hd => rfl); (case hg => rfl); (case hr => first | (go_simp; done) | (go_simp; rfl)); intro g5 hg w5 hbox hbk; have B5 := Aside0.mk hbox; have n_HA := Aside0.mk (HA.out.below hbk); have n_HT := Aside0.mk (HT.out.trans (.of_below hbk)); clear HA HT; have HA := n_HA; have HT := n_HT; clear n_HA n_HT; have c5_0 : w5.cell? ⟨g5, 0, none⟩ = some (.int .i64 x.f0) := (blk_cell B5.out 0).trans rfl; have HG := Aside0.mk (show g5 = w.heap.size from hg); have HG5 := Aside0.mk (blk_lt B5.out); clear hbk hbox hg) | (go_at_call 31; (with_reducible refine (bk_thread_in p gt go gn b i HI.out _ HA.out).mono ?_); rintro e w1 ⟨rfl, rfl⟩))
 clear c5_0
 have n_HA := Aside0.mk (HA.out.drew)
 have n_B5 := Aside0.mk (blk_drew B5.out)
 have n_HT := Aside0.mk (HT.out.drew)
 clear HA B5 HT
 have HA := n_HA
 have B5 := n_B5
 have HT := n_HT
 clear n_HA n_B5 n_HT
 refine start_ (n := 12) (S := fun w' => w'.cell? ⟨gt, i * 3, none⟩ = some (.int .i64 cc) ∧ w'.cell? ⟨p, 4, none⟩ = some (.int .i64 b.c.f4)) (ds := []) #[false, false, false, false, false, false, false, false, false, false, false, false] (by kernel_rfl) rfl rfl ⟨(HA.out.cntc i HI.out HCC.out), ((blk_cell HA.out.p 4).trans rfl)⟩ (fun hHeld => ?_); refine with_tabW bk_Begin.tab4 bk_Begin.bits4 (fun HT_ HW_ => ?_)
 generalize w1.drew = W1 at HA B5 HT hHeld ⊢
 refine pure_ (i := 0) (N := some 27) (v := ?_) (a' := ?_) (lb_ 12 1) rfl rfl (any_of HT_.out (by kernel_rfl)) (fun _ _ _ h => h) (Or.inl ⟨by rfl, ?_⟩) ?_ ?_; rotate_left
 ·intro w'; go_simp; with_reducible rfl
 rotate_left
 ·simp only [Act.put, List.setIfInBounds_toArray, List.set_cons_zero, List.set_cons_succ, i64_w, i32_w]; rfl
 refine pure_ (i := 1) (N := some 28) (v := ?_) (a' := ?_) (lb_ 12 3) rfl rfl (any_of HT_.out (by kernel_rfl)) (fun _ _ _ h => h) (Or.inl ⟨by rfl, ?_⟩) ?_ ?_; rotate_left
 ·intro w'; go_simp; with_reducible rfl
 rotate_left
 ·simp only [Act.put, List.setIfInBounds_toArray, List.set_cons_zero, List.set_cons_succ, i64_w, i32_w]; rfl
 refine pure_ (i := 2) (N := some 29) (v := ?_) (a' := ?_) (lb_ 12 7) rfl rfl (any_of HT_.out (by kernel_rfl)) (fun _ _ _ h => h) (Or.inl ⟨by rfl, ?_⟩) ?_ ?_; rotate_left
 ·intro w'; go_simp; with_reducible rfl
 rotate_left
 ·simp only [Act.put, List.setIfInBounds_toArray, List.set_cons_zero, List.set_cons_succ, i64_w, i32_w]; rfl
 refine pure_ (i := 3) (N := some 30) (v := ?_) (a' := ?_) (lb_ 12 15) rfl rfl (any_of HT_.out (by kernel_rfl)) (fun _ _ _ h => h) (Or.inl ⟨by rfl, ?_⟩) ?_ ?_; rotate_left
 ·intro w'; go_simp; with_reducible rfl
 rotate_left
 ·simp only [Act.put, List.setIfInBounds_toArray, List.set_cons_zero, List.set_cons_succ, i64_w, i32_w]; rfl
 refine pure_ (i := 5) (N := some 32) (v := ?_) (a' := ?_) (lb_ 12 47) rfl rfl (any_of HT_.out (by kernel_rfl)) (fun _ _ _ h => h) (Or.inl ⟨by rfl, ?_⟩) ?_ ?_; rotate_left
 ·intro w'; go_simp; with_reducible rfl
 rotate_left
 ·simp only [Act.put, List.setIfInBounds_toArray, List.set_cons_zero, List.set_cons_succ, i64_w, i32_w]; rfl
 refine pure_ (i := 6) (N := some 33) (v := ?_) (a' := ?_) (lb_ 12 111) rfl rfl (any_of HT_.out (by kernel_rfl)) (fun _ _ _ h => h) (Or.inl ⟨by rfl, ?_⟩) ?_ ?_; rotate_left
 ·intro w'; go_simp; with_reducible rfl
 rotate_left
 ·simp only [Act.put, List.setIfInBounds_toArray, List.set_cons_zero, List.set_cons_succ, i64_w, i32_w]; rfl
 refine pure_ (i := 7) (N := some 34) (v := ?_) (a' := ?_) (lb_ 12 239) rfl rfl (any_of HT_.out (by kernel_rfl)) (fun _ _ _ h => h) (Or.inl ⟨by rfl, ?_⟩) ?_ ?_; rotate_left
 ·intro w'; go_simp; with_reducible rfl
 rotate_left
 ·simp only [Act.put, List.setIfInBounds_toArray, List.set_cons_zero, List.set_cons_succ, i64_w, i32_w]; rfl
 refine pure_ (i := 8) (N := some 35) (v := ?_) (a' := ?_) (lb_ 12 495) rfl rfl (any_of HT_.out (by kernel_rfl)) (fun _ _ _ h => h) (Or.inl ⟨by rfl, ?_⟩) ?_ ?_; rotate_left
 ·intro w'; go_simp; with_reducible rfl
 rotate_left
 ·simp only [Act.put, List.setIfInBounds_toArray, List.set_cons_zero, List.set_cons_succ, i64_w, i32_w]; rfl
 refine take_ (i := 4) (N := some 31) (v := ?_) (a' := ?_) (lb_ 12 511) rfl rfl (take_ofW HT_.out HW_.out (by kernel_rfl)) (fun _ _ _ h => h) (Or.inl ⟨by rfl, ?_⟩) hHeld ?_ ?_; rotate_left
 ·rintro w' ⟨s0, s1⟩; go_simp; with_reducible rfl
 rotate_left
 ·simp only [Act.put, List.setIfInBounds_toArray, List.set_cons_zero, List.set_cons_succ, i64_w, i32_w]; rfl
 refine take_ (i := 9) (N := some 36) (v := ?_) (a' := ?_) (lb_ 12 1023) rfl rfl (take_ofW HT_.out HW_.out (by kernel_rfl)) (fun _ _ _ h => h) (Or.inl ⟨by rfl, ?_⟩) hHeld ?_ ?_; rotate_left
 ·rintro w' ⟨s0, s1⟩; go_simp; with_reducible rfl
 rotate_left
 ·simp only [Act.put, List.setIfInBounds_toArray, List.set_cons_zero, List.set_cons_succ, i64_w, i32_w]; rfl
 refine pure_ (i := 10) (N := some 37) (v := ?_) (a' := ?_) (lb_ 12 2047) rfl rfl (any_of HT_.out (by kernel_rfl)) (fun _ _ _ h => h) (Or.inl ⟨by rfl, ?_⟩) ?_ ?_; rotate_left
 ·intro w'; go_simp; with_reducible rfl
 rotate_left
 ·simp only [Act.put, List.setIfInBounds_toArray, List.set_cons_zero, List.set_cons_succ, i64_w, i32_w]; rfl
 refine pure_ (i := 11) (N := some 26) (v := ?_) (a' := ?_) (lb_ 12 4095) rfl rfl (any_of HT_.out (by kernel_rfl)) (fun _ _ _ h => h) (Or.inl ⟨by rfl, ?_⟩) ?_ ?_; rotate_left
 ·intro w'; go_simp; with_reducible rfl
 rotate_left
 ·simp only [Act.put, List.setIfInBounds_toArray, List.set_cons_zero, List.set_cons_succ, i64_w, i32_w]; rfl
 refine done_ (done_of HT_.out (by kernel_rfl)) ?_
 go_upto_region 6 with (fail)
 have n_HA := Aside0.mk (HA.out.drew)
 have n_B5 := Aside0.mk (blk_drew B5.out)
 have n_HT := Aside0.mk (HT.out.drew)
 clear HA B5 HT
 have HA := n_HA
 have B5 := n_B5
 have HT := n_HT
 clear n_HA n_B5 n_HT
 refine start_ (n := 12) (S := fun w' => w'.cell? ⟨p, 0, none⟩ = some (.int .i64 b.c.f0) ∧ w'.cell? ⟨p, 1, none⟩ = some (.int .i64 b.c.f1) ∧ w'.cell? ⟨p, 2, none⟩ = some (.int .i64 b.c.f2) ∧ w'.cell? ⟨p, 3, none⟩ = some (.int .i64 b.c.f3) ∧ w'.cell? ⟨p, 4, none⟩ = some (.int .i64 b.c.f4) ∧ w'.cell? ⟨gt, i * 3, none⟩ = some (.int .i64 cc)) (ds := []) #[false, false, false, false, false, false, false, false, false, false, false, false] (by kernel_rfl) rfl rfl ⟨((blk_cell HA.out.p 0).trans rfl), ((blk_cell HA.out.p 1).trans rfl), ((blk_cell HA.out.p 2).trans rfl), ((blk_cell HA.out.p 3).trans rfl), ((blk_cell HA.out.p 4).trans rfl), (HA.out.cntc i HI.out HCC.out)⟩ (fun hHeld => ?_); refine with_tabW bk_Begin.tab6 bk_Begin.bits6 (fun HT_ HW_ => ?_)
 generalize W1.drew = W1 at HA B5 HT hHeld ⊢
 refine pure_ (i := 0) (N := some 38) (v := ?_) (a' := ?_) (lb_ 12 1) rfl rfl (any_of HT_.out (by kernel_rfl)) (fun _ _ _ h => h) (Or.inl ⟨by rfl, ?_⟩) ?_ ?_; rotate_left
 ·intro w'; go_simp; with_reducible rfl
 rotate_left
 ·simp only [Act.put, List.setIfInBounds_toArray, List.set_cons_zero, List.set_cons_succ, i64_w, i32_w]; rfl
 refine pure_ (i := 1) (N := some 39) (v := ?_) (a' := ?_) (lb_ 12 3) rfl rfl (any_of HT_.out (by kernel_rfl)) (fun _ _ _ h => h) (Or.inl ⟨by rfl, ?_⟩) ?_ ?_; rotate_left
 ·intro w'; go_simp; with_reducible rfl
 rotate_left
 ·simp only [Act.put, List.setIfInBounds_toArray, List.set_cons_zero, List.set_cons_succ, i64_w, i32_w]; rfl
 refine pure_ (i := 2) (N := some 40) (v := ?_) (a' := ?_) (lb_ 12 7) rfl rfl (any_of HT_.out (by kernel_rfl)) (fun _ _ _ h => h) (Or.inl ⟨by rfl, ?_⟩) ?_ ?_; rotate_left
 ·intro w'; go_simp; with_reducible rfl
 rotate_left
 ·simp only [Act.put, List.setIfInBounds_toArray, List.set_cons_zero, List.set_cons_succ, i64_w, i32_w]; rfl
 refine pure_ (i := 4) (N := some 42) (v := ?_) (a' := ?_) (lb_ 12 23) rfl rfl (any_of HT_.out (by kernel_rfl)) (fun _ _ _ h => h) (Or.inl ⟨by rfl, ?_⟩) ?_ ?_; rotate_left
 ·intro w'; go_simp; with_reducible rfl
 rotate_left
 ·simp only [Act.put, List.setIfInBounds_toArray, List.set_cons_zero, List.set_cons_succ, i64_w, i32_w]; rfl
 refine pure_ (i := 5) (N := some 43) (v := ?_) (a' := ?_) (lb_ 12 55) rfl rfl (any_of HT_.out (by kernel_rfl)) (fun _ _ _ h => h) (Or.inl ⟨by rfl, ?_⟩) ?_ ?_; rotate_left
 ·intro w'; go_simp; with_reducible rfl
 rotate_left
 ·simp only [Act.put, List.setIfInBounds_toArray, List.set_cons_zero, List.set_cons_succ, i64_w, i32_w]; rfl
 refine pure_ (i := 6) (N := some 44) (v := ?_) (a' := ?_) (lb_ 12 119) rfl rfl (any_of HT_.out (by kernel_rfl)) (fun _ _ _ h => h) (Or.inl ⟨by rfl, ?_⟩) ?_ ?_; rotate_left
 ·intro w'; go_simp; with_reducible rfl
 rotate_left
 ·simp only [Act.put, List.setIfInBounds_toArray, List.set_cons_zero, List.set_cons_succ, i64_w, i32_w]; rfl
 refine pure_ (i := 7) (N := some 45) (v := ?_) (a' := ?_) (lb_ 12 247) rfl rfl (any_of HT_.out (by kernel_rfl)) (fun _ _ _ h => h) (Or.inl ⟨by rfl, ?_⟩) ?_ ?_; rotate_left
 ·intro w'; go_simp; with_reducible rfl
 rotate_left
 ·simp only [Act.put, List.setIfInBounds_toArray, List.set_cons_zero, List.set_cons_succ, i64_w, i32_w]; rfl
 refine pure_ (i := 8) (N := some 46) (v := ?_) (a' := ?_) (lb_ 12 503) rfl rfl (any_of HT_.out (by kernel_rfl)) (fun _ _ _ h => h) (Or.inl ⟨by rfl, ?_⟩) ?_ ?_; rotate_left
 ·intro w'; go_simp; with_reducible rfl
 rotate_left
 ·simp only [Act.put, List.setIfInBounds_toArray, List.set_cons_zero, List.set_cons_succ, i64_w, i32_w]; rfl
 refine take_ (i := 3) (N := some 41) (v := ?_) (a' := ?_) (lb_ 12 511) rfl rfl (take_ofW HT_.out HW_.out (by kernel_rfl)) (fun _ _ _ h => h) (Or.inl ⟨by rfl, ?_⟩) hHeld ?_ ?_; rotate_left
 ·rintro w' ⟨s0, s1, s2, s3, s4, s5⟩; go_simp; with_reducible rfl
 rotate_left
 ·simp only [Act.put, List.setIfInBounds_toArray, List.set_cons_zero, List.set_cons_succ, i64_w, i32_w]; rfl
 refine take_ (i := 9) (N := some 47) (v := ?_) (a' := ?_) (lb_ 12 1023) rfl rfl (take_ofW HT_.out HW_.out (by kernel_rfl)) (fun _ _ _ h => h) (Or.inl ⟨by rfl, ?_⟩) hHeld ?_ ?_; rotate_left
 ·rintro w' ⟨s0, s1, s2, s3, s4, s5⟩; go_simp; with_reducible rfl
 rotate_left
 ·simp only [Act.put, List.setIfInBounds_toArray, List.set_cons_zero, List.set_cons_succ, i64_w, i32_w]; rfl
 refine one_ (i := 10) (N := some 48) (lb_ 12 2047) rfl rfl (one_of HT_.out (by kernel_rfl)) (by decide) (fun K hK => ?_)
 refine goes_ Try.func33 (by kernel_rfl) rfl #[.agg #[.int .i64 b.c.f0, .int .i64 b.c.f1, .int .i64 b.c.f2, .int .i64 b.c.f3, .int .i64 b.c.f4], .int .i64 (i : Int), .int .i64 cc] (by rfl) rfl rfl (by (try simp only [List.map_toArray, List.map_cons, List.map_nil]); first | done | rfl) ?_
 with_reducible refine (HOP.out _).mono ?_
 rintro e W6 ⟨rfl, hbk⟩
 refine ⟨_, rfl, ?_⟩
 have n_HA := Aside0.mk (HA.out.below hbk)
 have n_B5 := Aside0.mk (blk_below B5.out hbk)
 have n_HT := Aside0.mk (HT.out.trans (.of_below hbk))
 clear HA B5 HT
 have HA := n_HA
 have B5 := n_B5
 have HT := n_HT
 clear n_HA n_B5 n_HT
 clear hbk
 refine hK.out _ _ ⟨((blk_cell HA.out.p 0).trans rfl), ((blk_cell HA.out.p 1).trans rfl), ((blk_cell HA.out.p 2).trans rfl), ((blk_cell HA.out.p 3).trans rfl), ((blk_cell HA.out.p 4).trans rfl), (HA.out.cntc i HI.out HCC.out)⟩ (fun hHeld => ?_)
 clear hK K
 refine norm_ (a' := ?_) ?_ ?_
 rotate_left
 ·show Act.put _ (some 48) _ = _
  simp only [Act.put, List.setIfInBounds_toArray, List.set_cons_zero, List.set_cons_succ, i64_w, i32_w]
  rfl
 refine pure_ (i := 11) (N := some 9) (v := ?_) (a' := ?_) (lb_ 12 4095) rfl rfl (any_of HT_.out (by kernel_rfl)) (fun _ _ _ h => h) (Or.inl ⟨by rfl, ?_⟩) ?_ ?_; rotate_left
 ·intro w'; go_simp; with_reducible rfl
 rotate_left
 ·simp only [Act.put, List.setIfInBounds_toArray, List.set_cons_zero, List.set_cons_succ, i64_w, i32_w]; rfl
 refine done_ (done_of HT_.out (by kernel_rfl)) ?_
 have c0 := HA.out.cntc i HI.out HCC.out
 have f0 := HA.out.frz (i * 3)
 have HAP := Aside0.mk (show g5 ≠ gt from by have := HG.out; have := HLT.out.2.1; omega)
 go_upto_region 8 with (fail)
 obtain ⟨W7, hW7⟩ : ∃ W, W6.setCell ⟨gt, i * 3, none⟩ (.int .i64 (cc + 1)) = W := ⟨_, rfl⟩
 rw [hW7]
 have n_HA := Aside0.mk (show BookAt W7 p gt go gn (b.called i) from by rw [← hW7]; exact (by have := HA.out.called i HI.out; rwa [HCC.out] at this))
 have n_B5 := Aside0.mk (show W7.heap[g5]? = some (.cells #[.int .i64 x.f0, .int .u64 x.f1, .int .u64 x.f2, .int .i64 x.f3] 38 (0, 0)) from by rw [← hW7]; exact cel_far B5.out HAP.out _)
 have n_HT := Aside0.mk (show Touch (fun k => k = gt ∨ k = go) w W7 from by rw [← hW7]; exact HT.out.set (.inl (.inl rfl)) _)
 clear hW7 HA B5 HT
 have HA := n_HA
 have B5 := n_B5
 have HT := n_HT
 clear n_HA n_B5 n_HT
 clear c0 f0
 have HI2 := Aside0.mk (show i < (b.called i).calls.length from by simp [RB.called]; exact HI.out)
 have c5_0 : W7.cell? ⟨g5, 0, none⟩ = some (.int .i64 x.f0) := (blk_cell B5.out 0).trans rfl
 go_upto_region 9 with (fail)
 clear c5_0
 have HII2 := Aside0.mk (show (b.called i).ins.getD i 0 = ii from HII.out)
 have n_HA := Aside0.mk (HA.out.drew)
 have n_B5 := Aside0.mk (blk_drew B5.out)
 have n_HT := Aside0.mk (HT.out.drew)
 clear HA B5 HT
 have HA := n_HA
 have B5 := n_B5
 have HT := n_HT
 clear n_HA n_B5 n_HT
 refine start_ (n := 11) (S := fun w' => w'.cell? ⟨gt, i * 3 + 1, none⟩ = some (.int .i64 ii) ∧ w'.cell? ⟨p, 2, none⟩ = some (.int .i64 b.c.f2)) (ds := []) #[false, false, false, false, false, false, false, false, false, false, false] (by kernel_rfl) rfl rfl ⟨(HA.out.cnti i HI2.out HII2.out), ((blk_cell HA.out.p 2).trans rfl)⟩ (fun hHeld => ?_); refine with_tabW bk_Begin.tab9 bk_Begin.bits9 (fun HT_ HW_ => ?_)
 generalize W7.drew = W1 at HA B5 HT hHeld ⊢
 refine pure_ (i := 0) (N := some 61) (v := ?_) (a' := ?_) (lb_ 11 1) rfl rfl (any_of HT_.out (by kernel_rfl)) (fun _ _ _ h => h) (Or.inl ⟨by rfl, ?_⟩) ?_ ?_; rotate_left
 ·intro w'; go_simp; with_reducible rfl
 rotate_left
 ·simp only [Act.put, List.setIfInBounds_toArray, List.set_cons_zero, List.set_cons_succ, i64_w, i32_w]; rfl
 refine pure_ (i := 1) (N := some 62) (v := ?_) (a' := ?_) (lb_ 11 3) rfl rfl (any_of HT_.out (by kernel_rfl)) (fun _ _ _ h => h) (Or.inl ⟨by rfl, ?_⟩) ?_ ?_; rotate_left
 ·intro w'; go_simp; with_reducible rfl
 rotate_left
 ·simp only [Act.put, List.setIfInBounds_toArray, List.set_cons_zero, List.set_cons_succ, i64_w, i32_w]; rfl
 refine pure_ (i := 2) (N := some 63) (v := ?_) (a' := ?_) (lb_ 11 7) rfl rfl (any_of HT_.out (by kernel_rfl)) (fun _ _ _ h => h) (Or.inl ⟨by rfl, ?_⟩) ?_ ?_; rotate_left
 ·intro w'; go_simp; with_reducible rfl
 rotate_left
 ·simp only [Act.put, List.setIfInBounds_toArray, List.set_cons_zero, List.set_cons_succ, i64_w, i32_w]; rfl
 refine pure_ (i := 3) (N := some 64) (v := ?_) (a' := ?_) (lb_ 11 15) rfl rfl (any_of HT_.out (by kernel_rfl)) (fun _ _ _ h => h) (Or.inl ⟨by rfl, ?_⟩) ?_ ?_; rotate_left
 ·intro w'; go_simp; with_reducible rfl
 rotate_left
 ·simp only [Act.put, List.setIfInBounds_toArray, List.set_cons_zero, List.set_cons_succ, i64_w, i32_w]; rfl
 refine pure_ (i := 5) (N := some 66) (v := ?_) (a' := ?_) (lb_ 11 47) rfl rfl (any_of HT_.out (by kernel_rfl)) (fun _ _ _ h => h) (Or.inl ⟨by rfl, ?_⟩) ?_ ?_; rotate_left
 ·intro w'; go_simp; with_reducible rfl
 rotate_left
 ·simp only [Act.put, List.setIfInBounds_toArray, List.set_cons_zero, List.set_cons_succ, i64_w, i32_w]; rfl
 refine pure_ (i := 6) (N := some 67) (v := ?_) (a' := ?_) (lb_ 11 111) rfl rfl (any_of HT_.out (by kernel_rfl)) (fun _ _ _ h => h) (Or.inl ⟨by rfl, ?_⟩) ?_ ?_; rotate_left
 ·intro w'; go_simp; with_reducible rfl
 rotate_left
 ·simp only [Act.put, List.setIfInBounds_toArray, List.set_cons_zero, List.set_cons_succ, i64_w, i32_w]; rfl
 refine pure_ (i := 7) (N := some 68) (v := ?_) (a' := ?_) (lb_ 11 239) rfl rfl (any_of HT_.out (by kernel_rfl)) (fun _ _ _ h => h) (Or.inl ⟨by rfl, ?_⟩) ?_ ?_; rotate_left
 ·intro w'; go_simp; with_reducible rfl
 rotate_left
 ·simp only [Act.put, List.setIfInBounds_toArray, List.set_cons_zero, List.set_cons_succ, i64_w, i32_w]; rfl
 refine pure_ (i := 8) (N := some 69) (v := ?_) (a' := ?_) (lb_ 11 495) rfl rfl (any_of HT_.out (by kernel_rfl)) (fun _ _ _ h => h) (Or.inl ⟨by rfl, ?_⟩) ?_ ?_; rotate_left
 ·intro w'; go_simp; with_reducible rfl
 rotate_left
 ·simp only [Act.put, List.setIfInBounds_toArray, List.set_cons_zero, List.set_cons_succ, i64_w, i32_w]; rfl
 refine take_ (i := 4) (N := some 65) (v := ?_) (a' := ?_) (lb_ 11 511) rfl rfl (take_ofW HT_.out HW_.out (by kernel_rfl)) (fun _ _ _ h => h) (Or.inl ⟨by rfl, ?_⟩) hHeld ?_ ?_; rotate_left
 ·rintro w' ⟨s0, s1⟩; go_simp; with_reducible rfl
 rotate_left
 ·simp only [Act.put, List.setIfInBounds_toArray, List.set_cons_zero, List.set_cons_succ, i64_w, i32_w]; rfl
 refine take_ (i := 9) (N := some 70) (v := ?_) (a' := ?_) (lb_ 11 1023) rfl rfl (take_ofW HT_.out HW_.out (by kernel_rfl)) (fun _ _ _ h => h) (Or.inl ⟨by rfl, ?_⟩) hHeld ?_ ?_; rotate_left
 ·rintro w' ⟨s0, s1⟩; go_simp; with_reducible rfl
 rotate_left
 ·simp only [Act.put, List.setIfInBounds_toArray, List.set_cons_zero, List.set_cons_succ, i64_w, i32_w]; rfl
 refine pure_ (i := 10) (N := some 71) (v := ?_) (a' := ?_) (lb_ 11 2047) rfl rfl (any_of HT_.out (by kernel_rfl)) (fun _ _ _ h => h) (Or.inl ⟨by rfl, ?_⟩) ?_ ?_; rotate_left
 ·intro w'; go_simp; with_reducible rfl
 rotate_left
 ·simp only [Act.put, List.setIfInBounds_toArray, List.set_cons_zero, List.set_cons_succ, i64_w, i32_w]; rfl
 refine done_ (done_of HT_.out (by kernel_rfl)) ?_
 go_wp2
 go_ret2
 exact ⟨rfl, HA.out, HT.out⟩
set_option maxHeartbeats 8000000 in
set_option maxRecDepth 100000 in
theorem bk_Begin_ins (p gt go gn : Nat) (b : RB) (i : Nat) (hi : i < b.calls.length) (x : S38) (hk1 : ¬ x.f0 < 1) (hk4 : ¬ 4 < x.f0) (cc : Int) (hcc : b.calls.getD i 0 = cc) (hc : ¬ cc = b.c.f4) (hb0 : 0 ≤ cc) (hb1 : cc ≤ 1000) (op : Int) (hop : ∀ W, Calls Try.prog 33 #[.agg #[.int .i64 b.c.f0, .int .i64 b.c.f1, .int .i64 b.c.f2, .int .i64 b.c.f3, .int .i64 b.c.f4], .int .i64 (i : Int), .int .i64 cc] W (fun e w' => e = .returned (.int .i64 op) ∧ Below W.heap.size W w')) (ii : Int) (hii : b.ins.getD i 0 = ii) (hk : x.f0 = 1) (hin : ¬ ii = b.c.f2) (hd0 : 0 ≤ ii) (hd1 : ii ≤ 1000) (hw : (Lit.int .i64 op).wf = true) (hs : b.ops.length < 100000) (w : World) (h : BookAt w p gt go gn (b)) :
  Calls Try.prog 24 #[.pointer (some ⟨p, 0, none⟩), .int .i64 (i : Int), .agg #[.int .i64 x.f0, .int .u64 x.f1, .int .u64 x.f2, .int .i64 x.f3]] w fun e w' => e = .returned (.tuple #[.int .i64 op, .int .i64 0]) ∧ BookAt w' p gt go gn (((b.called i).inserted i).addOp op x) ∧ Touch (fun k => k = gt ∨ k = go) w w' := by
 have HLT := Aside0.mk h.lt
 have HA := Aside0.mk h
 have HI := Aside0.mk hi
 have HT := Aside0.mk (Touch.refl (fun k => k = gt ∨ k = go) w)
 clear h hi
 have HCC := Aside0.mk hcc
 clear hcc
 have HII := Aside0.mk hii
 clear hii
 have HKEY := Aside0.mk (Maps.keyOf_int_mk (P := Try.prog) Try.underlying3 hw)
 have HS := Aside0.mk hs
 clear hw hs
 have hcb : (cc == b.c.f4) = false := beq_eq_false_iff_ne.2 hc
 clear hc
 have HOP := Aside0.mk hop
 clear hop
 have hkb : (x.f0 == 1) = true := beq_iff_eq.2 hk
 clear hk
 have hinb : (ii == b.c.f2) = false := beq_eq_false_iff_ne.2 hin
 clear hin
 go_enter Try.func24, Try.ntmps24
 go_upto_region 4 with (first | ((with_reducible refine gate_dst (N := 5) rfl ?_); refine box_event ?hg (N := 5) ?hd (cs := #[.int .i64 x.f0, .int .u64 x.f1, .int .u64 x.f2, .int .i64 x.f3]) (t := 38) ?hr ?_; (case hd => rfl); (case hg => rfl); (case hr => first | (go_simp; done) | (go_simp; rfl)); intro g5 hg w5 hbox hbk; have B5 := Aside0.mk hbox; have n_HA := Aside0.mk (HA.out.below hbk); have n_HT := Aside0.mk (HT.out.trans (.of_below hbk)); clear HA HT; have HA := n_HA; have HT := n_HT; clear n_HA n_HT; have c5_0 : w5.cell? ⟨g5, 0, none⟩ = some (.int .i64 x.f0) := (blk_cell B5.out 0).trans rfl; have HG := Aside0.mk (show g5 = w.heap.size from hg); have HG5 := Aside0.mk (blk_lt B5.out); clear hbk hbox hg) | (go_at_call 31; (with_reducible refine (bk_thread_in p gt go gn b i HI.out _ HA.out).mono ?_); rintro e w1 ⟨rfl, rfl⟩))
 clear c5_0
 have n_HA := Aside0.mk (HA.out.drew)
 have n_B5 := Aside0.mk (blk_drew B5.out)
 have n_HT := Aside0.mk (HT.out.drew)
 clear HA B5 HT
 have HA := n_HA
 have B5 := n_B5
 have HT := n_HT
 clear n_HA n_B5 n_HT
 refine start_ (n := 12) (S := fun w' => w'.cell? ⟨gt, i * 3, none⟩ = some (.int .i64 cc) ∧ w'.cell? ⟨p, 4, none⟩ = some (.int .i64 b.c.f4)) (ds := []) #[false, false, false, false, false, false, false, false, false, false, false, false] (by kernel_rfl) rfl rfl ⟨(HA.out.cntc i HI.out HCC.out), ((blk_cell HA.out.p 4).trans rfl)⟩ (fun hHeld => ?_); refine with_tabW bk_Begin.tab4 bk_Begin.bits4 (fun HT_ HW_ => ?_)
 generalize w1.drew = W1 at HA B5 HT hHeld ⊢
 refine pure_ (i := 0) (N := some 27) (v := ?_) (a' := ?_) (lb_ 12 1) rfl rfl (any_of HT_.out (by kernel_rfl)) (fun _ _ _ h => h) (Or.inl ⟨by rfl, ?_⟩) ?_ ?_; rotate_left
 ·intro w'; go_simp; with_reducible rfl
 rotate_left
 ·simp only [Act.put, List.setIfInBounds_toArray, List.set_cons_zero, List.set_cons_succ, i64_w, i32_w]; rfl
 refine pure_ (i := 1) (N := some 28) (v := ?_) (a' := ?_) (lb_ 12 3) rfl rfl (any_of HT_.out (by kernel_rfl)) (fun _ _ _ h => h) (Or.inl ⟨by rfl, ?_⟩) ?_ ?_; rotate_left
 ·intro w'; go_simp; with_reducible rfl
 rotate_left
 ·simp only [Act.put, List.setIfInBounds_toArray, List.set_cons_zero, List.set_cons_succ, i64_w, i32_w]; rfl
 refine pure_ (i := 2) (N := some 29) (v := ?_) (a' := ?_) (lb_ 12 7) rfl rfl (any_of HT_.out (by kernel_rfl)) (fun _ _ _ h => h) (Or.inl ⟨by rfl, ?_⟩) ?_ ?_; rotate_left
 ·intro w'; go_simp; with_reducible rfl
 rotate_left
 ·simp only [Act.put, List.setIfInBounds_toArray, List.set_cons_zero, List.set_cons_succ, i64_w, i32_w]; rfl
 refine pure_ (i := 3) (N := some 30) (v := ?_) (a' := ?_) (lb_ 12 15) rfl rfl (any_of HT_.out (by kernel_rfl)) (fun _ _ _ h => h) (Or.inl ⟨by rfl, ?_⟩) ?_ ?_; rotate_left
 ·intro w'; go_simp; with_reducible rfl
 rotate_left
 ·simp only [Act.put, List.setIfInBounds_toArray, List.set_cons_zero, List.set_cons_succ, i64_w, i32_w]; rfl
 refine pure_ (i := 5) (N := some 32) (v := ?_) (a' := ?_) (lb_ 12 47) rfl rfl (any_of HT_.out (by kernel_rfl)) (fun _ _ _ h => h) (Or.inl ⟨by rfl, ?_⟩) ?_ ?_; rotate_left
 ·intro w'; go_simp; with_reducible rfl
 rotate_left
 ·simp only [Act.put, List.setIfInBounds_toArray, List.set_cons_zero, List.set_cons_succ, i64_w, i32_w]; rfl
 refine pure_ (i := 6) (N := some 33) (v := ?_) (a' := ?_) (lb_ 12 111) rfl rfl (any_of HT_.out (by kernel_rfl)) (fun _ _ _ h => h) (Or.inl ⟨by rfl, ?_⟩) ?_ ?_; rotate_left
 ·intro w'; go_simp; with_reducible rfl
 rotate_left
 ·simp only [Act.put, List.setIfInBounds_toArray, List.set_cons_zero, List.set_cons_succ, i64_w, i32_w]; rfl
 refine pure_ (i := 7) (N := some 34) (v := ?_) (a' := ?_) (lb_ 12 239) rfl rfl (any_of HT_.out (by kernel_rfl)) (fun _ _ _ h => h) (Or.inl ⟨by rfl, ?_⟩) ?_ ?_; rotate_left
 ·intro w'; go_simp; with_reducible rfl
 rotate_left
 ·simp only [Act.put, List.setIfInBounds_toArray, List.set_cons_zero, List.set_cons_succ, i64_w, i32_w]; rfl
 refine pure_ (i := 8) (N := some 35) (v := ?_) (a' := ?_) (lb_ 12 495) rfl rfl (any_of HT_.out (by kernel_rfl)) (fun _ _ _ h => h) (Or.inl ⟨by rfl, ?_⟩) ?_ ?_; rotate_left
 ·intro w'; go_simp; with_reducible rfl
 rotate_left
 ·simp only [Act.put, List.setIfInBounds_toArray, List.set_cons_zero, List.set_cons_succ, i64_w, i32_w]; rfl
 refine take_ (i := 4) (N := some 31) (v := ?_) (a' := ?_) (lb_ 12 511) rfl rfl (take_ofW HT_.out HW_.out (by kernel_rfl)) (fun _ _ _ h => h) (Or.inl ⟨by rfl, ?_⟩) hHeld ?_ ?_; rotate_left
 ·rintro w' ⟨s0, s1⟩; go_simp; with_reducible rfl
 rotate_left
 ·simp only [Act.put, List.setIfInBounds_toArray, List.set_cons_zero, List.set_cons_succ, i64_w, i32_w]; rfl
 refine take_ (i := 9) (N := some 36) (v := ?_) (a' := ?_) (lb_ 12 1023) rfl rfl (take_ofW HT_.out HW_.out (by kernel_rfl)) (fun _ _ _ h => h) (Or.inl ⟨by rfl, ?_⟩) hHeld ?_ ?_; rotate_left
 ·rintro w' ⟨s0, s1⟩; go_simp; with_reducible rfl
 rotate_left
 ·simp only [Act.put, List.setIfInBounds_toArray, List.set_cons_zero, List.set_cons_succ, i64_w, i32_w]; rfl
 refine pure_ (i := 10) (N := some 37) (v := ?_) (a' := ?_) (lb_ 12 2047) rfl rfl (any_of HT_.out (by kernel_rfl)) (fun _ _ _ h => h) (Or.inl ⟨by rfl, ?_⟩) ?_ ?_; rotate_left
 ·intro w'; go_simp; with_reducible rfl
 rotate_left
 ·simp only [Act.put, List.setIfInBounds_toArray, List.set_cons_zero, List.set_cons_succ, i64_w, i32_w]; rfl
 refine pure_ (i := 11) (N := some 26) (v := ?_) (a' := ?_) (lb_ 12 4095) rfl rfl (any_of HT_.out (by kernel_rfl)) (fun _ _ _ h => h) (Or.inl ⟨by rfl, ?_⟩) ?_ ?_; rotate_left
 ·intro w'; go_simp; with_reducible rfl
 rotate_left
 ·simp only [Act.put, List.setIfInBounds_toArray, List.set_cons_zero, List.set_cons_succ, i64_w, i32_w]; rfl
 refine done_ (done_of HT_.out (by kernel_rfl)) ?_
 go_upto_region 6 with (fail)
 have n_HA := Aside0.mk (HA.out.drew)
 have n_B5 := Aside0.mk (blk_drew B5.out)
 have n_HT := Aside0.mk (HT.out.drew)
 clear HA B5 HT
 have HA := n_HA
 have B5 := n_B5
 have HT := n_HT
 clear n_HA n_B5 n_HT
 refine start_ (n := 12) (S := fun w' => w'.cell? ⟨p, 0, none⟩ = some (.int .i64 b.c.f0) ∧ w'.cell? ⟨p, 1, none⟩ = some (.int .i64 b.c.f1) ∧ w'.cell? ⟨p, 2, none⟩ = some (.int .i64 b.c.f2) ∧ w'.cell? ⟨p, 3, none⟩ = some (.int .i64 b.c.f3) ∧ w'.cell? ⟨p, 4, none⟩ = some (.int .i64 b.c.f4) ∧ w'.cell? ⟨gt, i * 3, none⟩ = some (.int .i64 cc)) (ds := []) #[false, false, false, false, false, false, false, false, false, false, false, false] (by kernel_rfl) rfl rfl ⟨((blk_cell HA.out.p 0).trans rfl), ((blk_cell HA.out.p 1).trans rfl), ((blk_cell HA.out.p 2).trans rfl), ((blk_cell HA.out.p 3).trans rfl), ((blk_cell HA.out.p 4).trans rfl), (HA.out.cntc i HI.out HCC.out)⟩ (fun hHeld => ?_); refine with_tabW bk_Begin.tab6 bk_Begin.bits6 (fun HT_ HW_ => ?_)
 generalize W1.drew = W1 at HA B5 HT hHeld ⊢
 refine pure_ (i := 0) (N := some 38) (v := ?_) (a' := ?_) (lb_ 12 1) rfl rfl (any_of HT_.out (by kernel_rfl)) (fun _ _ _ h => h) (Or.inl ⟨by rfl, ?_⟩) ?_ ?_; rotate_left
 ·intro w'; go_simp; with_reducible rfl
 rotate_left
 ·simp only [Act.put, List.setIfInBounds_toArray, List.set_cons_zero, List.set_cons_succ, i64_w, i32_w]; rfl
 refine pure_ (i := 1) (N := some 39) (v := ?_) (a' := ?_) (lb_ 12 3) rfl rfl (any_of HT_.out (by kernel_rfl)) (fun _ _ _ h => h) (Or.inl ⟨by rfl, ?_⟩) ?_ ?_; rotate_left
 ·intro w'; go_simp; with_reducible rfl
 rotate_left
 ·simp only [Act.put, List.setIfInBounds_toArray, List.set_cons_zero, List.set_cons_succ, i64_w, i32_w]; rfl
 refine pure_ (i := 2) (N := some 40) (v := ?_) (a' := ?_) (lb_ 12 7) rfl rfl (any_of HT_.out (by kernel_rfl)) (fun _ _ _ h => h) (Or.inl ⟨by rfl, ?_⟩) ?_ ?_; rotate_left
 ·intro w'; go_simp; with_reducible rfl
 rotate_left
 ·simp only [Act.put, List.setIfInBounds_toArray, List.set_cons_zero, List.set_cons_succ, i64_w, i32_w]; rfl
 refine pure_ (i := 4) (N := some 42) (v := ?_) (a' := ?_) (lb_ 12 23) rfl rfl (any_of HT_.out (by kernel_rfl)) (fun _ _ _ h => h) (Or.inl ⟨by rfl, ?_⟩) ?_ ?_; rotate_left
 ·intro w'; go_simp; with_reducible rfl
 rotate_left
 ·simp only [Act.put, List.setIfInBounds_toArray, List.set_cons_zero, List.set_cons_succ, i64_w, i32_w]; rfl
 refine pure_ (i := 5) (N := some 43) (v := ?_) (a' := ?_) (lb_ 12 55) rfl rfl (any_of HT_.out (by kernel_rfl)) (fun _ _ _ h => h) (Or.inl ⟨by rfl, ?_⟩) ?_ ?_; rotate_left
 ·intro w'; go_simp; with_reducible rfl
 rotate_left
 ·simp only [Act.put, List.setIfInBounds_toArray, List.set_cons_zero, List.set_cons_succ, i64_w, i32_w]; rfl
 refine pure_ (i := 6) (N := some 44) (v := ?_) (a' := ?_) (lb_ 12 119) rfl rfl (any_of HT_.out (by kernel_rfl)) (fun _ _ _ h => h) (Or.inl ⟨by rfl, ?_⟩) ?_ ?_; rotate_left
 ·intro w'; go_simp; with_reducible rfl
 rotate_left
 ·simp only [Act.put, List.setIfInBounds_toArray, List.set_cons_zero, List.set_cons_succ, i64_w, i32_w]; rfl
 refine pure_ (i := 7) (N := some 45) (v := ?_) (a' := ?_) (lb_ 12 247) rfl rfl (any_of HT_.out (by kernel_rfl)) (fun _ _ _ h => h) (Or.inl ⟨by rfl, ?_⟩) ?_ ?_; rotate_left
 ·intro w'; go_simp; with_reducible rfl
 rotate_left
 ·simp only [Act.put, List.setIfInBounds_toArray, List.set_cons_zero, List.set_cons_succ, i64_w, i32_w]; rfl
 refine pure_ (i := 8) (N := some 46) (v := ?_) (a' := ?_) (lb_ 12 503) rfl rfl (any_of HT_.out (by kernel_rfl)) (fun _ _ _ h => h) (Or.inl ⟨by rfl, ?_⟩) ?_ ?_; rotate_left
 ·intro w'; go_simp; with_reducible rfl
 rotate_left
 ·simp only [Act.put, List.setIfInBounds_toArray, List.set_cons_zero, List.set_cons_succ, i64_w, i32_w]; rfl
 refine take_ (i := 3) (N := some 41) (v := ?_) (a' := ?_) (lb_ 12 511) rfl rfl (take_ofW HT_.out HW_.out (by kernel_rfl)) (fun _ _ _ h => h) (Or.inl ⟨by rfl, ?_⟩) hHeld ?_ ?_; rotate_left
 ·rintro w' ⟨s0, s1, s2, s3, s4, s5⟩; go_simp; with_reducible rfl
 rotate_left
 ·simp only [Act.put, List.setIfInBounds_toArray, List.set_cons_zero, List.set_cons_succ, i64_w, i32_w]; rfl
 refine take_ (i := 9) (N := some 47) (v := ?_) (a' := ?_) (lb_ 12 1023) rfl rfl (take_ofW HT_.out HW_.out (by kernel_rfl)) (fun _ _ _ h => h) (Or.inl ⟨by rfl, ?_⟩) hHeld ?_ ?_; rotate_left
 ·rintro w' ⟨s0, s1, s2, s3, s4, s5⟩; go_simp; with_reducible rfl
 rotate_left
 ·simp only [Act.put, List.setIfInBounds_toArray, List.set_cons_zero, List.set_cons_succ, i64_w, i32_w]; rfl
 refine one_ (i := 10) (N := some 48) (lb_ 12 2047) rfl rfl (one_of HT_.out (by kernel_rfl)) (by decide) (fun K hK => ?_)
 refine goes_ Try.func33 (by kernel_rfl) rfl #[.agg #[.int .i64 b.c.f0, .int .i64 b.c.f1, .int .i64 b.c.f2, .int .i64 b.c.f3, .int .i64 b.c.f4], .int .i64 (i : Int), .int .i64 cc] (by rfl) rfl rfl (by (try simp only [List.map_toArray, List.map_cons, List.map_nil]); first | done | rfl) ?_
 with_reducible refine (HOP.out _).mono ?_
 rintro e W6 ⟨rfl, hbk⟩
 refine ⟨_, rfl, ?_⟩
 have n_HA := Aside0.mk (HA.out.below hbk)
 have n_B5 := Aside0.mk (blk_below B5.out hbk)
 have n_HT := Aside0.mk (HT.out.trans (.of_below hbk))
 clear HA B5 HT
 have HA := n_HA
 have B5 := n_B5
 have HT := n_HT
 clear n_HA n_B5 n_HT
 clear hbk
 refine hK.out _ _ ⟨((blk_cell HA.out.p 0).trans rfl), ((blk_cell HA.out.p 1).trans rfl), ((blk_cell HA.out.p 2).trans rfl), ((blk_cell HA.out.p 3).trans rfl), ((blk_cell HA.out.p 4).trans rfl), (HA.out.cntc i HI.out HCC.out)⟩ (fun hHeld => ?_)
 clear hK K
 refine norm_ (a' := ?_) ?_ ?_
 rotate_left
 ·show Act.put _ (some 48) _ = _
  simp only [Act.put, List.setIfInBounds_toArray, List.set_cons_zero, List.set_cons_succ, i64_w, i32_w]
  rfl
 refine pure_ (i := 11) (N := some 9) (v := ?_) (a' := ?_) (lb_ 12 4095) rfl rfl (any_of HT_.out (by kernel_rfl)) (fun _ _ _ h => h) (Or.inl ⟨by rfl, ?_⟩) ?_ ?_; rotate_left
 ·intro w'; go_simp; with_reducible rfl
 rotate_left
 ·simp only [Act.put, List.setIfInBounds_toArray, List.set_cons_zero, List.set_cons_succ, i64_w, i32_w]; rfl
 refine done_ (done_of HT_.out (by kernel_rfl)) ?_
 have c0 := HA.out.cntc i HI.out HCC.out
 have f0 := HA.out.frz (i * 3)
 have HAP := Aside0.mk (show g5 ≠ gt from by have := HG.out; have := HLT.out.2.1; omega)
 go_upto_region 8 with (fail)
 obtain ⟨W7, hW7⟩ : ∃ W, W6.setCell ⟨gt, i * 3, none⟩ (.int .i64 (cc + 1)) = W := ⟨_, rfl⟩
 rw [hW7]
 have n_HA := Aside0.mk (show BookAt W7 p gt go gn (b.called i) from by rw [← hW7]; exact (by have := HA.out.called i HI.out; rwa [HCC.out] at this))
 have n_B5 := Aside0.mk (show W7.heap[g5]? = some (.cells #[.int .i64 x.f0, .int .u64 x.f1, .int .u64 x.f2, .int .i64 x.f3] 38 (0, 0)) from by rw [← hW7]; exact cel_far B5.out HAP.out _)
 have n_HT := Aside0.mk (show Touch (fun k => k = gt ∨ k = go) w W7 from by rw [← hW7]; exact HT.out.set (.inl (.inl rfl)) _)
 clear hW7 HA B5 HT
 have HA := n_HA
 have B5 := n_B5
 have HT := n_HT
 clear n_HA n_B5 n_HT
 clear c0 f0
 have HI2 := Aside0.mk (show i < (b.called i).calls.length from by simp [RB.called]; exact HI.out)
 have c5_0 : W7.cell? ⟨g5, 0, none⟩ = some (.int .i64 x.f0) := (blk_cell B5.out 0).trans rfl
 go_upto_region 9 with (fail)
 clear c5_0
 have HII2 := Aside0.mk (show (b.called i).ins.getD i 0 = ii from HII.out)
 have n_HA := Aside0.mk (HA.out.drew)
 have n_B5 := Aside0.mk (blk_drew B5.out)
 have n_HT := Aside0.mk (HT.out.drew)
 clear HA B5 HT
 have HA := n_HA
 have B5 := n_B5
 have HT := n_HT
 clear n_HA n_B5 n_HT
 refine start_ (n := 11) (S := fun w' => w'.cell? ⟨gt, i * 3 + 1, none⟩ = some (.int .i64 ii) ∧ w'.cell? ⟨p, 2, none⟩ = some (.int .i64 b.c.f2)) (ds := []) #[false, false, false, false, false, false, false, false, false, false, false] (by kernel_rfl) rfl rfl ⟨(HA.out.cnti i HI2.out HII2.out), ((blk_cell HA.out.p 2).trans rfl)⟩ (fun hHeld => ?_); refine with_tabW bk_Begin.tab9 bk_Begin.bits9 (fun HT_ HW_ => ?_)
 generalize W7.drew = W1 at HA B5 HT hHeld ⊢
 refine pure_ (i := 0) (N := some 61) (v := ?_) (a' := ?_) (lb_ 11 1) rfl rfl (any_of HT_.out (by kernel_rfl)) (fun _ _ _ h => h) (Or.inl ⟨by rfl, ?_⟩) ?_ ?_; rotate_left
 ·intro w'; go_simp; with_reducible rfl
 rotate_left
 ·simp only [Act.put, List.setIfInBounds_toArray, List.set_cons_zero, List.set_cons_succ, i64_w, i32_w]; rfl
 refine pure_ (i := 1) (N := some 62) (v := ?_) (a' := ?_) (lb_ 11 3) rfl rfl (any_of HT_.out (by kernel_rfl)) (fun _ _ _ h => h) (Or.inl ⟨by rfl, ?_⟩) ?_ ?_; rotate_left
 ·intro w'; go_simp; with_reducible rfl
 rotate_left
 ·simp only [Act.put, List.setIfInBounds_toArray, List.set_cons_zero, List.set_cons_succ, i64_w, i32_w]; rfl
 refine pure_ (i := 2) (N := some 63) (v := ?_) (a' := ?_) (lb_ 11 7) rfl rfl (any_of HT_.out (by kernel_rfl)) (fun _ _ _ h => h) (Or.inl ⟨by rfl, ?_⟩) ?_ ?_; rotate_left
 ·intro w'; go_simp; with_reducible rfl
 rotate_left
 ·simp only [Act.put, List.setIfInBounds_toArray, List.set_cons_zero, List.set_cons_succ, i64_w, i32_w]; rfl
 refine pure_ (i := 3) (N := some 64) (v := ?_) (a' := ?_) (lb_ 11 15) rfl rfl (any_of HT_.out (by kernel_rfl)) (fun _ _ _ h => h) (Or.inl ⟨by rfl, ?_⟩) ?_ ?_; rotate_left
 ·intro w'; go_simp; with_reducible rfl
 rotate_left
 ·simp only [Act.put, List.setIfInBounds_toArray, List.set_cons_zero, List.set_cons_succ, i64_w, i32_w]; rfl
 refine pure_ (i := 5) (N := some 66) (v := ?_) (a' := ?_) (lb_ 11 47) rfl rfl (any_of HT_.out (by kernel_rfl)) (fun _ _ _ h => h) (Or.inl ⟨by rfl, ?_⟩) ?_ ?_; rotate_left
 ·intro w'; go_simp; with_reducible rfl
 rotate_left
 ·simp only [Act.put, List.setIfInBounds_toArray, List.set_cons_zero, List.set_cons_succ, i64_w, i32_w]; rfl
 refine pure_ (i := 6) (N := some 67) (v := ?_) (a' := ?_) (lb_ 11 111) rfl rfl (any_of HT_.out (by kernel_rfl)) (fun _ _ _ h => h) (Or.inl ⟨by rfl, ?_⟩) ?_ ?_; rotate_left
 ·intro w'; go_simp; with_reducible rfl
 rotate_left
 ·simp only [Act.put, List.setIfInBounds_toArray, List.set_cons_zero, List.set_cons_succ, i64_w, i32_w]; rfl
 refine pure_ (i := 7) (N := some 68) (v := ?_) (a' := ?_) (lb_ 11 239) rfl rfl (any_of HT_.out (by kernel_rfl)) (fun _ _ _ h => h) (Or.inl ⟨by rfl, ?_⟩) ?_ ?_; rotate_left
 ·intro w'; go_simp; with_reducible rfl
 rotate_left
 ·simp only [Act.put, List.setIfInBounds_toArray, List.set_cons_zero, List.set_cons_succ, i64_w, i32_w]; rfl
 refine pure_ (i := 8) (N := some 69) (v := ?_) (a' := ?_) (lb_ 11 495) rfl rfl (any_of HT_.out (by kernel_rfl)) (fun _ _ _ h => h) (Or.inl ⟨by rfl, ?_⟩) ?_ ?_; rotate_left
 ·intro w'; go_simp; with_reducible rfl
 rotate_left
 ·simp only [Act.put, List.setIfInBounds_toArray, List.set_cons_zero, List.set_cons_succ, i64_w, i32_w]; rfl
 refine take_ (i := 4) (N := some 65) (v := ?_) (a' := ?_) (lb_ 11 511) rfl rfl (take_ofW HT_.out HW_.out (by kernel_rfl)) (fun _ _ _ h => h) (Or.inl ⟨by rfl, ?_⟩) hHeld ?_ ?_; rotate_left
 ·rintro w' ⟨s0, s1⟩; go_simp; with_reducible rfl
 rotate_left
 ·simp only [Act.put, List.setIfInBounds_toArray, List.set_cons_zero, List.set_cons_succ, i64_w, i32_w]; rfl
 refine take_ (i := 9) (N := some 70) (v := ?_) (a' := ?_) (lb_ 11 1023) rfl rfl (take_ofW HT_.out HW_.out (by kernel_rfl)) (fun _ _ _ h => h) (Or.inl ⟨by rfl, ?_⟩) hHeld ?_ ?_; rotate_left
 ·rintro w' ⟨s0, s1⟩; go_simp; with_reducible rfl
 rotate_left
 ·simp only [Act.put, List.setIfInBounds_toArray, List.set_cons_zero, List.set_cons_succ, i64_w, i32_w]; rfl
 refine pure_ (i := 10) (N := some 71) (v := ?_) (a' := ?_) (lb_ 11 2047) rfl rfl (any_of HT_.out (by kernel_rfl)) (fun _ _ _ h => h) (Or.inl ⟨by rfl, ?_⟩) ?_ ?_; rotate_left
 ·intro w'; go_simp; with_reducible rfl
 rotate_left
 ·simp only [Act.put, List.setIfInBounds_toArray, List.set_cons_zero, List.set_cons_succ, i64_w, i32_w]; rfl
 refine done_ (done_of HT_.out (by kernel_rfl)) ?_
 have c1 := HA.out.cnti i HI2.out HII2.out
 have f1 := HA.out.frz (i * 3 + 1)
 go_upto_region 12 with (fail)
 obtain ⟨W11, hW11⟩ : ∃ W, W1.setCell ⟨gt, i * 3 + 1, none⟩ (.int .i64 (ii + 1)) = W := ⟨_, rfl⟩
 rw [hW11]
 have n_HA := Aside0.mk (show BookAt W11 p gt go gn ((b.called i).inserted i) from by rw [← hW11]; exact (by have := HA.out.inserted i HI2.out; rwa [HII2.out] at this))
 have n_B5 := Aside0.mk (show W11.heap[g5]? = some (.cells #[.int .i64 x.f0, .int .u64 x.f1, .int .u64 x.f2, .int .i64 x.f3] 38 (0, 0)) from by rw [← hW11]; exact cel_far B5.out HAP.out _)
 have n_HT := Aside0.mk (show Touch (fun k => k = gt ∨ k = go) w W11 from by rw [← hW11]; exact HT.out.set (.inl (.inl rfl)) _)
 clear hW11 HA B5 HT
 have HA := n_HA
 have B5 := n_B5
 have HT := n_HT
 clear n_HA n_B5 n_HT
 clear c1 f1
 have n_HA := Aside0.mk (HA.out.drew)
 have n_B5 := Aside0.mk (blk_drew B5.out)
 have n_HT := Aside0.mk (HT.out.drew)
 clear HA B5 HT
 have HA := n_HA
 have B5 := n_B5
 have HT := n_HT
 clear n_HA n_B5 n_HT
 refine start_ (n := 7) (S := fun w' => w'.cell? ⟨p, 6, none⟩ = some (.map (some go)) ∧ w'.cell? ⟨g5, 0, none⟩ = some (.int .i64 x.f0) ∧ w'.cell? ⟨g5, 1, none⟩ = some (.int .u64 x.f1) ∧ w'.cell? ⟨g5, 2, none⟩ = some (.int .u64 x.f2) ∧ w'.cell? ⟨g5, 3, none⟩ = some (.int .i64 x.f3)) (ds := []) #[false, false, false, false, false, false, false] (by kernel_rfl) rfl rfl ⟨((blk_cell HA.out.p 6).trans rfl), ((blk_cell B5.out 0).trans rfl), ((blk_cell B5.out 1).trans rfl), ((blk_cell B5.out 2).trans rfl), ((blk_cell B5.out 3).trans rfl)⟩ (fun hHeld => ?_); refine with_tabW bk_Begin.tab12 bk_Begin.bits12 (fun HT_ HW_ => ?_)
 generalize W11.drew = W1 at HA B5 HT hHeld ⊢
 refine pure_ (i := 0) (N := some 81) (v := ?_) (a' := ?_) (lb_ 7 1) rfl rfl (any_of HT_.out (by kernel_rfl)) (fun _ _ _ h => h) (Or.inl ⟨by rfl, ?_⟩) ?_ ?_; rotate_left
 ·intro w'; go_simp; with_reducible rfl
 rotate_left
 ·simp only [Act.put, List.setIfInBounds_toArray, List.set_cons_zero, List.set_cons_succ, i64_w, i32_w]; rfl
 refine pure_ (i := 1) (N := some 82) (v := ?_) (a' := ?_) (lb_ 7 3) rfl rfl (any_of HT_.out (by kernel_rfl)) (fun _ _ _ h => h) (Or.inl ⟨by rfl, ?_⟩) ?_ ?_; rotate_left
 ·intro w'; go_simp; with_reducible rfl
 rotate_left
 ·simp only [Act.put, List.setIfInBounds_toArray, List.set_cons_zero, List.set_cons_succ, i64_w, i32_w]; rfl
 refine pure_ (i := 2) (N := some 83) (v := ?_) (a' := ?_) (lb_ 7 7) rfl rfl (any_of HT_.out (by kernel_rfl)) (fun _ _ _ h => h) (Or.inl ⟨by rfl, ?_⟩) ?_ ?_; rotate_left
 ·intro w'; go_simp; with_reducible rfl
 rotate_left
 ·simp only [Act.put, List.setIfInBounds_toArray, List.set_cons_zero, List.set_cons_succ, i64_w, i32_w]; rfl
 refine pure_ (i := 4) (N := some 85) (v := ?_) (a' := ?_) (lb_ 7 23) rfl rfl (any_of HT_.out (by kernel_rfl)) (fun _ _ _ h => h) (Or.inl ⟨by rfl, ?_⟩) ?_ ?_; rotate_left
 ·intro w'; go_simp; with_reducible rfl
 rotate_left
 ·simp only [Act.put, List.setIfInBounds_toArray, List.set_cons_zero, List.set_cons_succ, i64_w, i32_w]; rfl
 refine take_ (i := 3) (N := some 84) (v := ?_) (a' := ?_) (lb_ 7 31) rfl rfl (take_ofW HT_.out HW_.out (by kernel_rfl)) (fun _ _ _ h => h) (Or.inl ⟨by rfl, ?_⟩) hHeld ?_ ?_; rotate_left
 ·rintro w' ⟨s0, s1, s2, s3, s4⟩; go_simp; with_reducible rfl
 rotate_left
 ·simp only [Act.put, List.setIfInBounds_toArray, List.set_cons_zero, List.set_cons_succ, i64_w, i32_w]; rfl
 refine take_ (i := 5) (N := some 86) (v := ?_) (a' := ?_) (lb_ 7 63) rfl rfl (take_ofW HT_.out HW_.out (by kernel_rfl)) (fun _ _ _ h => h) (Or.inl ⟨by rfl, ?_⟩) hHeld ?_ ?_; rotate_left
 ·rintro w' ⟨s0, s1, s2, s3, s4⟩; go_simp; with_reducible rfl
 rotate_left
 ·simp only [Act.put, List.setIfInBounds_toArray, List.set_cons_zero, List.set_cons_succ, i64_w, i32_w]; rfl
 refine one_ (i := 6) (N := none) (lb_ 7 127) rfl rfl (one_of HT_.out (by kernel_rfl)) (by decide) (fun K hK => ?_)
 refine put_held (by rfl) rfl _ _ _ 73 rfl 3 38 kd_int Try.underlying73 go b.ops.length (mapO b.ops) (by rfl) HA.out.o (by have := HS.out; unfold maxLen; omega) op (by rfl) HKEY.out (vC x) (by rfl) ?_
 intro w9 q1 q2
 have HA := Aside0.mk (show BookAt w9 p gt go gn (((b.called i).inserted i).addOp op x) from HA.out.addOp op x q1 q2 HS.out)
 have B5 := Aside0.mk ((q2.block g5 (blk_lt B5.out) (by have := HG.out; have := HLT.out.2.2.1; simp; omega)).trans B5.out)
 have HT := Aside0.mk (HT.out.grown q2 (.inl (.inr rfl)))
 clear q1 q2
 refine hK.out _ _ ⟨((blk_cell HA.out.p 6).trans rfl), ((blk_cell B5.out 0).trans rfl), ((blk_cell B5.out 1).trans rfl), ((blk_cell B5.out 2).trans rfl), ((blk_cell B5.out 3).trans rfl)⟩ (fun hHeld => ?_)
 clear hK K
 refine done_ (done_of HT_.out (by kernel_rfl)) ?_
 go_wp2
 go_ret2
 exact ⟨rfl, HA.out, HT.out⟩
set_option maxHeartbeats 8000000 in
set_option maxRecDepth 100000 in
theorem bk_Begin_oth (p gt go gn : Nat) (b : RB) (i : Nat) (hi : i < b.calls.length) (x : S38) (hk1 : ¬ x.f0 < 1) (hk4 : ¬ 4 < x.f0) (cc : Int) (hcc : b.calls.getD i 0 = cc) (hc : ¬ cc = b.c.f4) (hb0 : 0 ≤ cc) (hb1 : cc ≤ 1000) (op : Int) (hop : ∀ W, Calls Try.prog 33 #[.agg #[.int .i64 b.c.f0, .int .i64 b.c.f1, .int .i64 b.c.f2, .int .i64 b.c.f3, .int .i64 b.c.f4], .int .i64 (i : Int), .int .i64 cc] W (fun e w' => e = .returned (.int .i64 op) ∧ Below W.heap.size W w')) (hk : ¬ x.f0 = 1) (hw : (Lit.int .i64 op).wf = true) (hs : b.ops.length < 100000) (w : World) (h : BookAt w p gt go gn (b)) :
  Calls Try.prog 24 #[.pointer (some ⟨p, 0, none⟩), .int .i64 (i : Int), .agg #[.int .i64 x.f0, .int .u64 x.f1, .int .u64 x.f2, .int .i64 x.f3]] w fun e w' => e = .returned (.tuple #[.int .i64 op, .int .i64 0]) ∧ BookAt w' p gt go gn ((b.called i).addOp op x) ∧ Touch (fun k => k = gt ∨ k = go) w w' := by
 have HLT := Aside0.mk h.lt
 have HA := Aside0.mk h
 have HI := Aside0.mk hi
 have HT := Aside0.mk (Touch.refl (fun k => k = gt ∨ k = go) w)
 clear h hi
 have HCC := Aside0.mk hcc
 clear hcc
 have HKEY := Aside0.mk (Maps.keyOf_int_mk (P := Try.prog) Try.underlying3 hw)
 have HS := Aside0.mk hs
 clear hw hs
 have hcb : (cc == b.c.f4) = false := beq_eq_false_iff_ne.2 hc
 clear hc
 have HOP := Aside0.mk hop
 clear hop
 have hkb : (x.f0 == 1) = false := beq_eq_false_iff_ne.2 hk
 clear hk
 go_enter Try.func24, Try.ntmps24
 go_upto_region 4 with (first | ((with_reducible refine gate_dst (N := 5) rfl ?_); refine box_event ?hg (N := 5) ?hd (cs := #[.int .i64 x.f0, .int .u64 x.f1, .int .u64 x.f2, .int .i64 x.f3]) (t := 38) ?hr ?_; (case hd => rfl); (case hg => rfl); (case hr => first | (go_simp; done) | (go_simp; rfl)); intro g5 hg w5 hbox hbk; have B5 := Aside0.mk hbox; have n_HA := Aside0.mk (HA.out.below hbk); have n_HT := Aside0.mk (HT.out.trans (.of_below hbk)); clear HA HT; have HA := n_HA; have HT := n_HT; clear n_HA n_HT; have c5_0 : w5.cell? ⟨g5, 0, none⟩ = some (.int .i64 x.f0) := (blk_cell B5.out 0).trans rfl; have HG := Aside0.mk (show g5 = w.heap.size from hg); have HG5 := Aside0.mk (blk_lt B5.out); clear hbk hbox hg) | (go_at_call 31; (with_reducible refine (bk_thread_in p gt go gn b i HI.out _ HA.out).mono ?_); rintro e w1 ⟨rfl, rfl⟩))
 clear c5_0
 have n_HA := Aside0.mk (HA.out.drew)
 have n_B5 := Aside0.mk (blk_drew B5.out)
 have n_HT := Aside0.mk (HT.out.drew)
 clear HA B5 HT
 have HA := n_HA
 have B5 := n_B5
 have HT := n_HT
 clear n_HA n_B5 n_HT
 refine start_ (n := 12) (S := fun w' => w'.cell? ⟨gt, i * 3, none⟩ = some (.int .i64 cc) ∧ w'.cell? ⟨p, 4, none⟩ = some (.int .i64 b.c.f4)) (ds := []) #[false, false, false, false, false, false, false, false, false, false, false, false] (by kernel_rfl) rfl rfl ⟨(HA.out.cntc i HI.out HCC.out), ((blk_cell HA.out.p 4).trans rfl)⟩ (fun hHeld => ?_); refine with_tabW bk_Begin.tab4 bk_Begin.bits4 (fun HT_ HW_ => ?_)
 generalize w1.drew = W1 at HA B5 HT hHeld ⊢
 refine pure_ (i := 0) (N := some 27) (v := ?_) (a' := ?_) (lb_ 12 1) rfl rfl (any_of HT_.out (by kernel_rfl)) (fun _ _ _ h => h) (Or.inl ⟨by rfl, ?_⟩) ?_ ?_; rotate_left
 ·intro w'; go_simp; with_reducible rfl
 rotate_left
 ·simp only [Act.put, List.setIfInBounds_toArray, List.set_cons_zero, List.set_cons_succ, i64_w, i32_w]; rfl
 refine pure_ (i := 1) (N := some 28) (v := ?_) (a' := ?_) (lb_ 12 3) rfl rfl (any_of HT_.out (by kernel_rfl)) (fun _ _ _ h => h) (Or.inl ⟨by rfl, ?_⟩) ?_ ?_; rotate_left
 ·intro w'; go_simp; with_reducible rfl
 rotate_left
 ·simp only [Act.put, List.setIfInBounds_toArray, List.set_cons_zero, List.set_cons_succ, i64_w, i32_w]; rfl
 refine pure_ (i := 2) (N := some 29) (v := ?_) (a' := ?_) (lb_ 12 7) rfl rfl (any_of HT_.out (by kernel_rfl)) (fun _ _ _ h => h) (Or.inl ⟨by rfl, ?_⟩) ?_ ?_; rotate_left
 ·intro w'; go_simp; with_reducible rfl
 rotate_left
 ·simp only [Act.put, List.setIfInBounds_toArray, List.set_cons_zero, List.set_cons_succ, i64_w, i32_w]; rfl
 refine pure_ (i := 3) (N := some 30) (v := ?_) (a' := ?_) (lb_ 12 15) rfl rfl (any_of HT_.out (by kernel_rfl)) (fun _ _ _ h => h) (Or.inl ⟨by rfl, ?_⟩) ?_ ?_; rotate_left
 ·intro w'; go_simp; with_reducible rfl
 rotate_left
 ·simp only [Act.put, List.setIfInBounds_toArray, List.set_cons_zero, List.set_cons_succ, i64_w, i32_w]; rfl
 refine pure_ (i := 5) (N := some 32) (v := ?_) (a' := ?_) (lb_ 12 47) rfl rfl (any_of HT_.out (by kernel_rfl)) (fun _ _ _ h => h) (Or.inl ⟨by rfl, ?_⟩) ?_ ?_; rotate_left
 ·intro w'; go_simp; with_reducible rfl
 rotate_left
 ·simp only [Act.put, List.setIfInBounds_toArray, List.set_cons_zero, List.set_cons_succ, i64_w, i32_w]; rfl
 refine pure_ (i := 6) (N := some 33) (v := ?_) (a' := ?_) (lb_ 12 111) rfl rfl (any_of HT_.out (by kernel_rfl)) (fun _ _ _ h => h) (Or.inl ⟨by rfl, ?_⟩) ?_ ?_; rotate_left
 ·intro w'; go_simp; with_reducible rfl
 rotate_left
 ·simp only [Act.put, List.setIfInBounds_toArray, List.set_cons_zero, List.set_cons_succ, i64_w, i32_w]; rfl
 refine pure_ (i := 7) (N := some 34) (v := ?_) (a' := ?_) (lb_ 12 239) rfl rfl (any_of HT_.out (by kernel_rfl)) (fun _ _ _ h => h) (Or.inl ⟨by rfl, ?_⟩) ?_ ?_; rotate_left
 ·intro w'; go_simp; with_reducible rfl
 rotate_left
 ·simp only [Act.put, List.setIfInBounds_toArray, List.set_cons_zero, List.set_cons_succ, i64_w, i32_w]; rfl
 refine pure_ (i := 8) (N := some 35) (v := ?_) (a' := ?_) (lb_ 12 495) rfl rfl (any_of HT_.out (by kernel_rfl)) (fun _ _ _ h => h) (Or.inl ⟨by rfl, ?_⟩) ?_ ?_; rotate_left
 ·intro w'; go_simp; with_reducible rfl
 rotate_left
 ·simp only [Act.put, List.setIfInBounds_toArray, List.set_cons_zero, List.set_cons_succ, i64_w, i32_w]; rfl
 refine take_ (i := 4) (N := some 31) (v := ?_) (a' := ?_) (lb_ 12 511) rfl rfl (take_ofW HT_.out HW_.out (by kernel_rfl)) (fun _ _ _ h => h) (Or.inl ⟨by rfl, ?_⟩) hHeld ?_ ?_; rotate_left
 ·rintro w' ⟨s0, s1⟩; go_simp; with_reducible rfl
 rotate_left
 ·simp only [Act.put, List.setIfInBounds_toArray, List.set_cons_zero, List.set_cons_succ, i64_w, i32_w]; rfl
 refine take_ (i := 9) (N := some 36) (v := ?_) (a' := ?_) (lb_ 12 1023) rfl rfl (take_ofW HT_.out HW_.out (by kernel_rfl)) (fun _ _ _ h => h) (Or.inl ⟨by rfl, ?_⟩) hHeld ?_ ?_; rotate_left
 ·rintro w' ⟨s0, s1⟩; go_simp; with_reducible rfl
 rotate_left
 ·simp only [Act.put, List.setIfInBounds_toArray, List.set_cons_zero, List.set_cons_succ, i64_w, i32_w]; rfl
 refine pure_ (i := 10) (N := some 37) (v := ?_) (a' := ?_) (lb_ 12 2047) rfl rfl (any_of HT_.out (by kernel_rfl)) (fun _ _ _ h => h) (Or.inl ⟨by rfl, ?_⟩) ?_ ?_; rotate_left
 ·intro w'; go_simp; with_reducible rfl
 rotate_left
 ·simp only [Act.put, List.setIfInBounds_toArray, List.set_cons_zero, List.set_cons_succ, i64_w, i32_w]; rfl
 refine pure_ (i := 11) (N := some 26) (v := ?_) (a' := ?_) (lb_ 12 4095) rfl rfl (any_of HT_.out (by kernel_rfl)) (fun _ _ _ h => h) (Or.inl ⟨by rfl, ?_⟩) ?_ ?_; rotate_left
 ·intro w'; go_simp; with_reducible rfl
 rotate_left
 ·simp only [Act.put, List.setIfInBounds_toArray, List.set_cons_zero, List.set_cons_succ, i64_w, i32_w]; rfl
 refine done_ (done_of HT_.out (by kernel_rfl)) ?_
 go_upto_region 6 with (fail)
 have n_HA := Aside0.mk (HA.out.drew)
 have n_B5 := Aside0.mk (blk_drew B5.out)
 have n_HT := Aside0.mk (HT.out.drew)
 clear HA B5 HT
 have HA := n_HA
 have B5 := n_B5
 have HT := n_HT
 clear n_HA n_B5 n_HT
 refine start_ (n := 12) (S := fun w' => w'.cell? ⟨p, 0, none⟩ = some (.int .i64 b.c.f0) ∧ w'.cell? ⟨p, 1, none⟩ = some (.int .i64 b.c.f1) ∧ w'.cell? ⟨p, 2, none⟩ = some (.int .i64 b.c.f2) ∧ w'.cell? ⟨p, 3, none⟩ = some (.int .i64 b.c.f3) ∧ w'.cell? ⟨p, 4, none⟩ = some (.int .i64 b.c.f4) ∧ w'.cell? ⟨gt, i * 3, none⟩ = some (.int .i64 cc)) (ds := []) #[false, false, false, false, false, false, false, false, false, false, false, false] (by kernel_rfl) rfl rfl ⟨((blk_cell HA.out.p 0).trans rfl), ((blk_cell HA.out.p 1).trans rfl), ((blk_cell HA.out.p 2).trans rfl), ((blk_cell HA.out.p 3).trans rfl), ((blk_cell HA.out.p 4).trans rfl), (HA.out.cntc i HI.out HCC.out)⟩ (fun hHeld => ?_); refine with_tabW bk_Begin.tab6 bk_Begin.bits6 (fun HT_ HW_ => ?_)
 generalize W1.drew = W1 at HA B5 HT hHeld ⊢
 refine pure_ (i := 0) (N := some 38) (v := ?_) (a' := ?_) (lb_ 12 1) rfl rfl (any_of HT_.out (by kernel_rfl)) (fun _ _ _ h => h) (Or.inl ⟨by rfl, ?_⟩) ?_ ?_; rotate_left
 ·intro w'; go_simp; with_reducible rfl
 rotate_left
 ·simp only [Act.put, List.setIfInBounds_toArray, List.set_cons_zero, List.set_cons_succ, i64_w, i32_w]; rfl
 refine pure_ (i := 1) (N := some 39) (v := ?_) (a' := ?_) (lb_ 12 3) rfl rfl (any_of HT_.out (by kernel_rfl)) (fun _ _ _ h => h) (Or.inl ⟨by rfl, ?_⟩) ?_ ?_; rotate_left
 ·intro w'; go_simp; with_reducible rfl
 rotate_left
 ·simp only [Act.put, List.setIfInBounds_toArray, List.set_cons_zero, List.set_cons_succ, i64_w, i32_w]; rfl
 refine pure_ (i := 2) (N := some 40) (v := ?_) (a' := ?_) (lb_ 12 7) rfl rfl (any_of HT_.out (by kernel_rfl)) (fun _ _ _ h => h) (Or.inl ⟨by rfl, ?_⟩) ?_ ?_; rotate_left
 ·intro w'; go_simp; with_reducible rfl
 rotate_left
 ·simp only [Act.put, List.setIfInBounds_toArray, List.set_cons_zero, List.set_cons_succ, i64_w, i32_w]; rfl
 refine pure_ (i := 4) (N := some 42) (v := ?_) (a' := ?_) (lb_ 12 23) rfl rfl (any_of HT_.out (by kernel_rfl)) (fun _ _ _ h => h) (Or.inl ⟨by rfl, ?_⟩) ?_ ?_; rotate_left
 ·intro w'; go_simp; with_reducible rfl
 rotate_left
 ·simp only [Act.put, List.setIfInBounds_toArray, List.set_cons_zero, List.set_cons_succ, i64_w, i32_w]; rfl
 refine pure_ (i := 5) (N := some 43) (v := ?_) (a' := ?_) (lb_ 12 55) rfl rfl (any_of HT_.out (by kernel_rfl)) (fun _ _ _ h => h) (Or.inl ⟨by rfl, ?_⟩) ?_ ?_; rotate_left
 ·intro w'; go_simp; with_reducible rfl
 rotate_left
 ·simp only [Act.put, List.setIfInBounds_toArray, List.set_cons_zero, List.set_cons_succ, i64_w, i32_w]; rfl
 refine pure_ (i := 6) (N := some 44) (v := ?_) (a' := ?_) (lb_ 12 119) rfl rfl (any_of HT_.out (by kernel_rfl)) (fun _ _ _ h => h) (Or.inl ⟨by rfl, ?_⟩) ?_ ?_; rotate_left
 ·intro w'; go_simp; with_reducible rfl
 rotate_left
 ·simp only [Act.put, List.setIfInBounds_toArray, List.set_cons_zero, List.set_cons_succ, i64_w, i32_w]; rfl
 refine pure_ (i := 7) (N := some 45) (v := ?_) (a' := ?_) (lb_ 12 247) rfl rfl (any_of HT_.out (by kernel_rfl)) (fun _ _ _ h => h) (Or.inl ⟨by rfl, ?_⟩) ?_ ?_; rotate_left
 ·intro w'; go_simp; with_reducible rfl
 rotate_left
 ·simp only [Act.put, List.setIfInBounds_toArray, List.set_cons_zero, List.set_cons_succ, i64_w, i32_w]; rfl
 refine pure_ (i := 8) (N := some 46) (v := ?_) (a' := ?_) (lb_ 12 503) rfl rfl (any_of HT_.out (by kernel_rfl)) (fun _ _ _ h => h) (Or.inl ⟨by rfl, ?_⟩) ?_ ?_; rotate_left
 ·intro w'; go_simp; with_reducible rfl
 rotate_left
 ·simp only [Act.put, List.setIfInBounds_toArray, List.set_cons_zero, List.set_cons_succ, i64_w, i32_w]; rfl
 refine take_ (i := 3) (N := some 41) (v := ?_) (a' := ?_) (lb_ 12 511) rfl rfl (take_ofW HT_.out HW_.out (by kernel_rfl)) (fun _ _ _ h => h) (Or.inl ⟨by rfl, ?_⟩) hHeld ?_ ?_; rotate_left
 ·rintro w' ⟨s0, s1, s2, s3, s4, s5⟩; go_simp; with_reducible rfl
 rotate_left
 ·simp only [Act.put, List.setIfInBounds_toArray, List.set_cons_zero, List.set_cons_succ, i64_w, i32_w]; rfl
 refine take_ (i := 9) (N := some 47) (v := ?_) (a' := ?_) (lb_ 12 1023) rfl rfl (take_ofW HT_.out HW_.out (by kernel_rfl)) (fun _ _ _ h => h) (Or.inl ⟨by rfl, ?_⟩) hHeld ?_ ?_; rotate_left
 ·rintro w' ⟨s0, s1, s2, s3, s4, s5⟩; go_simp; with_reducible rfl
 rotate_left
 ·simp only [Act.put, List.setIfInBounds_toArray, List.set_cons_zero, List.set_cons_succ, i64_w, i32_w]; rfl
 refine one_ (i := 10) (N := some 48) (lb_ 12 2047) rfl rfl (one_of HT_.out (by kernel_rfl)) (by decide) (fun K hK => ?_)
 refine goes_ Try.func33 (by kernel_rfl) rfl #[.agg #[.int .i64 b.c.f0, .int .i64 b.c.f1, .int .i64 b.c.f2, .int .i64 b.c.f3, .int .i64 b.c.f4], .int .i64 (i : Int), .int .i64 cc] (by rfl) rfl rfl (by (try simp only [List.map_toArray, List.map_cons, List.map_nil]); first | done | rfl) ?_
 with_reducible refine (HOP.out _).mono ?_
 rintro e W6 ⟨rfl, hbk⟩
 refine ⟨_, rfl, ?_⟩
 have n_HA := Aside0.mk (HA.out.below hbk)
 have n_B5 := Aside0.mk (blk_below B5.out hbk)
 have n_HT := Aside0.mk (HT.out.trans (.of_below hbk))
 clear HA B5 HT
 have HA := n_HA
 have B5 := n_B5
 have HT := n_HT
 clear n_HA n_B5 n_HT
 clear hbk
 refine hK.out _ _ ⟨((blk_cell HA.out.p 0).trans rfl), ((blk_cell HA.out.p 1).trans rfl), ((blk_cell HA.out.p 2).trans rfl), ((blk_cell HA.out.p 3).trans rfl), ((blk_cell HA.out.p 4).trans rfl), (HA.out.cntc i HI.out HCC.out)⟩ (fun hHeld => ?_)
 clear hK K
 refine norm_ (a' := ?_) ?_ ?_
 rotate_left
 ·show Act.put _ (some 48) _ = _
  simp only [Act.put, List.setIfInBounds_toArray, List.set_cons_zero, List.set_cons_succ, i64_w, i32_w]
  rfl
 refine pure_ (i := 11) (N := some 9) (v := ?_) (a' := ?_) (lb_ 12 4095) rfl rfl (any_of HT_.out (by kernel_rfl)) (fun _ _ _ h => h) (Or.inl ⟨by rfl, ?_⟩) ?_ ?_; rotate_left
 ·intro w'; go_simp; with_reducible rfl
 rotate_left
 ·simp only [Act.put, List.setIfInBounds_toArray, List.set_cons_zero, List.set_cons_succ, i64_w, i32_w]; rfl
 refine done_ (done_of HT_.out (by kernel_rfl)) ?_
 have c0 := HA.out.cntc i HI.out HCC.out
 have f0 := HA.out.frz (i * 3)
 have HAP := Aside0.mk (show g5 ≠ gt from by have := HG.out; have := HLT.out.2.1; omega)
 go_upto_region 8 with (fail)
 obtain ⟨W7, hW7⟩ : ∃ W, W6.setCell ⟨gt, i * 3, none⟩ (.int .i64 (cc + 1)) = W := ⟨_, rfl⟩
 rw [hW7]
 have n_HA := Aside0.mk (show BookAt W7 p gt go gn (b.called i) from by rw [← hW7]; exact (by have := HA.out.called i HI.out; rwa [HCC.out] at this))
 have n_B5 := Aside0.mk (show W7.heap[g5]? = some (.cells #[.int .i64 x.f0, .int .u64 x.f1, .int .u64 x.f2, .int .i64 x.f3] 38 (0, 0)) from by rw [← hW7]; exact cel_far B5.out HAP.out _)
 have n_HT := Aside0.mk (show Touch (fun k => k = gt ∨ k = go) w W7 from by rw [← hW7]; exact HT.out.set (.inl (.inl rfl)) _)
 clear hW7 HA B5 HT
 have HA := n_HA
 have B5 := n_B5
 have HT := n_HT
 clear n_HA n_B5 n_HT
 clear c0 f0
 have HI2 := Aside0.mk (show i < (b.called i).calls.length from by simp [RB.called]; exact HI.out)
 have c5_0 : W7.cell? ⟨g5, 0, none⟩ = some (.int .i64 x.f0) := (blk_cell B5.out 0).trans rfl
 go_upto_region 12 with (fail)
 clear c5_0
 have n_HA := Aside0.mk (HA.out.drew)
 have n_B5 := Aside0.mk (blk_drew B5.out)
 have n_HT := Aside0.mk (HT.out.drew)
 clear HA B5 HT
 have HA := n_HA
 have B5 := n_B5
 have HT := n_HT
 clear n_HA n_B5 n_HT
 refine start_ (n := 7) (S := fun w' => w'.cell? ⟨p, 6, none⟩ = some (.map (some go)) ∧ w'.cell? ⟨g5, 0, none⟩ = some (.int .i64 x.f0) ∧ w'.cell? ⟨g5, 1, none⟩ = some (.int .u64 x.f1) ∧ w'.cell? ⟨g5, 2, none⟩ = some (.int .u64 x.f2) ∧ w'.cell? ⟨g5, 3, none⟩ = some (.int .i64 x.f3)) (ds := []) #[false, false, false, false, false, false, false] (by kernel_rfl) rfl rfl ⟨((blk_cell HA.out.p 6).trans rfl), ((blk_cell B5.out 0).trans rfl), ((blk_cell B5.out 1).trans rfl), ((blk_cell B5.out 2).trans rfl), ((blk_cell B5.out 3).trans rfl)⟩ (fun hHeld => ?_); refine with_tabW bk_Begin.tab12 bk_Begin.bits12 (fun HT_ HW_ => ?_)
 generalize W7.drew = W1 at HA B5 HT hHeld ⊢
 refine pure_ (i := 0) (N := some 81) (v := ?_) (a' := ?_) (lb_ 7 1) rfl rfl (any_of HT_.out (by kernel_rfl)) (fun _ _ _ h => h) (Or.inl ⟨by rfl, ?_⟩) ?_ ?_; rotate_left
 ·intro w'; go_simp; with_reducible rfl
 rotate_left
 ·simp only [Act.put, List.setIfInBounds_toArray, List.set_cons_zero, List.set_cons_succ, i64_w, i32_w]; rfl
 refine pure_ (i := 1) (N := some 82) (v := ?_) (a' := ?_) (lb_ 7 3) rfl rfl (any_of HT_.out (by kernel_rfl)) (fun _ _ _ h => h) (Or.inl ⟨by rfl, ?_⟩) ?_ ?_; rotate_left
 ·intro w'; go_simp; with_reducible rfl
 rotate_left
 ·simp only [Act.put, List.setIfInBounds_toArray, List.set_cons_zero, List.set_cons_succ, i64_w, i32_w]; rfl
 refine pure_ (i := 2) (N := some 83) (v := ?_) (a' := ?_) (lb_ 7 7) rfl rfl (any_of HT_.out (by kernel_rfl)) (fun _ _ _ h => h) (Or.inl ⟨by rfl, ?_⟩) ?_ ?_; rotate_left
 ·intro w'; go_simp; with_reducible rfl
 rotate_left
 ·simp only [Act.put, List.setIfInBounds_toArray, List.set_cons_zero, List.set_cons_succ, i64_w, i32_w]; rfl
 refine pure_ (i := 4) (N := some 85) (v := ?_) (a' := ?_) (lb_ 7 23) rfl rfl (any_of HT_.out (by kernel_rfl)) (fun _ _ _ h => h) (Or.inl ⟨by rfl, ?_⟩) ?_ ?_; rotate_left
 ·intro w'; go_simp; with_reducible rfl
 rotate_left
 ·simp only [Act.put, List.setIfInBounds_toArray, List.set_cons_zero, List.set_cons_succ, i64_w, i32_w]; rfl
 refine take_ (i := 3) (N := some 84) (v := ?_) (a' := ?_) (lb_ 7 31) rfl rfl (take_ofW HT_.out HW_.out (by kernel_rfl)) (fun _ _ _ h => h) (Or.inl ⟨by rfl, ?_⟩) hHeld ?_ ?_; rotate_left
 ·rintro w' ⟨s0, s1, s2, s3, s4⟩; go_simp; with_reducible rfl
 rotate_left
 ·simp only [Act.put, List.setIfInBounds_toArray, List.set_cons_zero, List.set_cons_succ, i64_w, i32_w]; rfl
 refine take_ (i := 5) (N := some 86) (v := ?_) (a' := ?_) (lb_ 7 63) rfl rfl (take_ofW HT_.out HW_.out (by kernel_rfl)) (fun _ _ _ h => h) (Or.inl ⟨by rfl, ?_⟩) hHeld ?_ ?_; rotate_left
 ·rintro w' ⟨s0, s1, s2, s3, s4⟩; go_simp; with_reducible rfl
 rotate_left
 ·simp only [Act.put, List.setIfInBounds_toArray, List.set_cons_zero, List.set_cons_succ, i64_w, i32_w]; rfl
 refine one_ (i := 6) (N := none) (lb_ 7 127) rfl rfl (one_of HT_.out (by kernel_rfl)) (by decide) (fun K hK => ?_)
 refine put_held (by rfl) rfl _ _ _ 73 rfl 3 38 kd_int Try.underlying73 go b.ops.length (mapO b.ops) (by rfl) HA.out.o (by have := HS.out; unfold maxLen; omega) op (by rfl) HKEY.out (vC x) (by rfl) ?_
 intro w9 q1 q2
 have HA := Aside0.mk (show BookAt w9 p gt go gn ((b.called i).addOp op x) from HA.out.addOp op x q1 q2 HS.out)
 have B5 := Aside0.mk ((q2.block g5 (blk_lt B5.out) (by have := HG.out; have := HLT.out.2.2.1; simp; omega)).trans B5.out)
 have HT := Aside0.mk (HT.out.grown q2 (.inl (.inr rfl)))
 clear q1 q2
 refine hK.out _ _ ⟨((blk_cell HA.out.p 6).trans rfl), ((blk_cell B5.out 0).trans rfl), ((blk_cell B5.out 1).trans rfl), ((blk_cell B5.out 2).trans rfl), ((blk_cell B5.out 3).trans rfl)⟩ (fun hHeld => ?_)
 clear hK K
 refine done_ (done_of HT_.out (by kernel_rfl)) ?_
 go_wp2
 go_ret2
 exact ⟨rfl, HA.out, HT.out⟩
def bk_Make.T7 : Bool × List (List Nat × List Nat) := (true, [([], []), ([0], [0]), ([1], [1]), ([2], [2]), ([3], [3]), ([], []), ([5], [5]), ([6], [6]), ([7], [7]), ([8], [8]), ([9], [9]), ([4, 10], [4, 10])])
def bk_Make.B7 : List Nat := [0, 1, 3, 7, 15, 0, 32, 96, 224, 480, 992, 2047]
theorem bk_Make.tab7 : rtab .any (opsOf Try.f25 7) = bk_Make.T7 := by kernel_rfl
theorem bk_Make.bits7 : waitsOk bk_Make.T7.2 bk_Make.B7 = true := by kernel_rfl
def bk_Make.T9 : Bool × List (List Nat × List Nat) := (true, [([], []), ([0], [0]), ([1], [1]), ([2], [2]), ([], []), ([], []), ([5], [5]), ([6], [6]), ([7], [7]), ([8], [8]), ([3, 4, 9], [3, 4, 9]), ([10, 10, 0, 1, 2, 3, 4, 5, 6, 7, 8, 9, 10], [10])])
def bk_Make.B9 : List Nat := [0, 1, 3, 7, 0, 0, 32, 96, 224, 480, 1023, 2047]
theorem bk_Make.tab9 : rtab .any (opsOf Try.f25 9) = bk_Make.T9 := by kernel_rfl
theorem bk_Make.bits9 : waitsOk bk_Make.T9.2 bk_Make.B9 = true := by kernel_rfl
theorem wpList_put_held {P : Program} (w : World) {ops : Array Oper} {rest : List Oper} {o : Oper} {a : Act} {Q : Exit → Act → World → Prop} (hg : o.guard = none) (m x v : Operand) (t : TypeId) (hop : o.op = Op.mapUpdate t m x v)
  (k e : TypeId) (KD : Maps.Keyed P k) (ht : P.underlying t = some (.map k e)) (b n : Nat) (ms : List (Int × Value)) (hm : a.eval m = .map (some b)) (hown : w.ownsMap P k hvH b n (dmap ms)) (hn : n < maxLen) (key : Int) (hx : a.eval x = .int .i64 key) (hkey : keyOf P k (.int .i64 key) = some (kL key))
  (val : Value) (hvH' : a.eval v = val) (h : ∀ w', w'.ownsMap P k hvH b (n + 1) (dmap (ms ++ [(key, val)])) → w.grownBy w' (some b) → wpList P ops Q rest (a.put o.dst undef) w') : wpList P ops Q (o :: rest) a w :=
 wpList_mapUpdate_own w hg m x v t hop k e KD ht hvH b n (dmap ms) hm hown hn _ val (kL key) hx hvH' hkey (.held val) [] rfl (fun w' r1 r2 => h w' (by rw [dmap_snoc]; exact r1) r2)
set_option maxHeartbeats 8000000 in
set_option maxRecDepth 100000 in
theorem bk_Begin_out (p gt go gn : Nat) (b : RB) (i : Int) (hi : i < 0 ∨ (b.calls.length : Int) ≤ i) (x : S38) (w : World) (h : BookAt w p gt go gn (b)) :
  Calls Try.prog 24 #[.pointer (some ⟨p, 0, none⟩), .int .i64 i, .agg #[.int .i64 x.f0, .int .u64 x.f1, .int .u64 x.f2, .int .i64 x.f3]] w fun e w' => e = .returned (.tuple #[.int .i64 0, .int .i64 1]) ∧ BookAt w' p gt go gn (b) ∧ Touch (fun k => k = gt ∨ k = go) w w' := by
 have HA := Aside0.mk h
 have HI := Aside0.mk hi
 have HT := Aside0.mk (Touch.refl (fun k => k = gt ∨ k = go) w)
 clear h hi
 go_enter Try.func24, Try.ntmps24
 go_wp2_with (first | ((with_reducible refine gate_dst (N := 5) rfl ?_); refine box_event ?hg (N := 5) ?hd (cs := #[.int .i64 x.f0, .int .u64 x.f1, .int .u64 x.f2, .int .i64 x.f3]) (t := 38) ?hr ?_; (case hd => rfl); (case hg => rfl); (case hr => first | (go_simp; done) | (go_simp; rfl)); intro g5 hg w5 hbox hbk; have B5 := Aside0.mk hbox; have n_HA := Aside0.mk (HA.out.below hbk); have n_HT := Aside0.mk (HT.out.trans (.of_below hbk)); clear HA HT; have HA := n_HA; have HT := n_HT; clear n_HA n_HT; have c5_0 : w5.cell? ⟨g5, 0, none⟩ = some (.int .i64 x.f0) := (blk_cell B5.out 0).trans rfl; clear hbk hbox hg) | (go_at_call 31; (with_reducible refine (bk_thread_out p gt go gn b i HI.out _ HA.out).mono ?_); rintro e w1 ⟨rfl, rfl⟩))
 go_ret2
 exact ⟨rfl, HA.out, HT.out⟩
set_option maxHeartbeats 8000000 in
set_option maxRecDepth 100000 in
theorem bk_Begin_nil (i : Int) (x : S38) (w : World) :
  Calls Try.prog 24 #[.pointer none, .int .i64 i, .agg #[.int .i64 x.f0, .int .u64 x.f1, .int .u64 x.f2, .int .i64 x.f3]] w fun e w' => e = .returned (.tuple #[.int .i64 0, .int .i64 1]) ∧ Below w.heap.size w w' := by
 go_enter Try.func24, Try.ntmps24
 go_wp2_with (go_at_call 31; (with_reducible refine (bk_thread_nil i _).mono ?_); rintro e w1 ⟨rfl, rfl⟩)
 go_ret2
 exact ⟨rfl, below_alloc (Below.refl _ _) _⟩
set_option maxHeartbeats 8000000 in
set_option maxRecDepth 100000 in
theorem bk_Make_out (p gt go gn : Nat) (b : RB) (i : Int) (hi : i < 0 ∨ (b.calls.length : Int) ≤ i) (k : Int) (w : World) (h : BookAt w p gt go gn (b)) :
  Calls Try.prog 25 #[.pointer (some ⟨p, 0, none⟩), .int .i64 i, .int .i64 k] w fun e w' => e = .returned (.tuple #[.int .i64 0, .int .i64 1]) ∧ BookAt w' p gt go gn (b) ∧ Touch (fun k => k = gt ∨ k = gn) w w' := by
 have HA := Aside0.mk h
 have HI := Aside0.mk hi
 clear h hi
 go_enter Try.func25, Try.ntmps25
 go_wp2_with (go_at_call 31; (with_reducible refine (bk_thread_out p gt go gn b i HI.out _ HA.out).mono ?_); rintro e w1 ⟨rfl, rfl⟩)
 go_ret2
 exact ⟨rfl, HA.out, Touch.refl _ _⟩
set_option maxHeartbeats 8000000 in
set_option maxRecDepth 100000 in
theorem bk_Make_nil (i k : Int) (w : World) :
  Calls Try.prog 25 #[.pointer none, .int .i64 i, .int .i64 k] w fun e w' => e = .returned (.tuple #[.int .i64 0, .int .i64 1]) ∧ w' = w := by
 go_enter Try.func25, Try.ntmps25
 go_wp2_with (go_at_call 31; (with_reducible refine (bk_thread_nil i _).mono ?_); rintro e w1 ⟨rfl, rfl⟩)
 go_ret2
 exact ⟨rfl, rfl⟩
set_option maxHeartbeats 8000000 in
set_option maxRecDepth 100000 in
theorem bk_Make_none (p gt go gn : Nat) (b : RB) (i : Nat) (hi : i < b.calls.length) (k : Int) (hwk : (Lit.int .i64 k).wf = true) (hr : opOf b.ops k = none) (w : World) (h : BookAt w p gt go gn (b)) :
  Calls Try.prog 25 #[.pointer (some ⟨p, 0, none⟩), .int .i64 (i : Int), .int .i64 k] w fun e w' => e = .returned (.tuple #[.int .i64 0, .int .i64 1]) ∧ BookAt w' p gt go gn (b) ∧ Touch (fun k => k = gt ∨ k = gn) w w' := by
 have HLT := Aside0.mk h.lt
 have HA := Aside0.mk h
 have HI := Aside0.mk hi
 have HT := Aside0.mk (Touch.refl (fun k => k = gt ∨ k = gn) w)
 have HK := Aside0.mk (Maps.keyOf_int_mk (P := Try.prog) Try.underlying3 hwk)
 have hlk := lkO b.ops k
 rw [hr] at hlk
 have HL := Aside0.mk hlk
 have h06 := (blk_cell h.p 6).trans rfl
 clear h hi hlk hr hwk
 go_enter Try.func25, Try.ntmps25
 go_wp2_with (first | (go_at_call 31; (with_reducible refine (bk_thread_in p gt go gn b i HI.out _ HA.out).mono ?_); rintro e w1 ⟨rfl, hw1⟩; have hw2 := hw1.symm; subst hw2) | (at_lookup; refine wpList_lookup_held _ rfl _ _ 73 rfl 3 38 kd_int Try.underlying73 zv_call go b.ops.length (mapO b.ops) rfl HA.out.o k rfl HK.out none HL.out ?_; unfold vC; dsimp only [Option.getD, Option.map, Option.isSome]))
 go_ret2
 exact ⟨rfl, HA.out.below (below_alloc (Below.refl _ _) _), HT.out.alloc _⟩
set_option maxHeartbeats 8000000 in
set_option maxRecDepth 100000 in
theorem bk_Make_full (p gt go gn : Nat) (b : RB) (i : Nat) (hi : i < b.calls.length) (k : Int) (hwk : (Lit.int .i64 k).wf = true) (x : S38) (hr : opOf b.ops k = some x) (mm : Int) (hmm : b.made.getD i 0 = mm) (hC0 : 0 ≤ b.c.f4) (hC1 : b.c.f4 ≤ 1000) (hc : mm = 2 * b.c.f4) (w : World) (h : BookAt w p gt go gn (b)) :
  Calls Try.prog 25 #[.pointer (some ⟨p, 0, none⟩), .int .i64 (i : Int), .int .i64 k] w fun e w' => e = .returned (.tuple #[.int .i64 0, .int .i64 3]) ∧ BookAt w' p gt go gn (b) ∧ Touch (fun k => k = gt ∨ k = gn) w w' := by
 have HLT := Aside0.mk h.lt
 have HA := Aside0.mk h
 have HI := Aside0.mk hi
 have HT := Aside0.mk (Touch.refl (fun k => k = gt ∨ k = gn) w)
 have HK := Aside0.mk (Maps.keyOf_int_mk (P := Try.prog) Try.underlying3 hwk)
 have hlk := lkO b.ops k
 rw [hr] at hlk
 have HL := Aside0.mk hlk
 have h06 := (blk_cell h.p 6).trans rfl
 clear h hi hlk hr hwk
 have HMM := Aside0.mk hmm
 clear hmm
 have hcb : (mm == wrap64 (2 * b.c.f4)) = true := beq_iff_eq.2 (by rw [hc]; unfold wrap64; omega)
 clear hc
 go_enter Try.func25, Try.ntmps25
 go_upto_region 7 with (first | (go_at_call 31; (with_reducible refine (bk_thread_in p gt go gn b i HI.out _ HA.out).mono ?_); rintro e w1 ⟨rfl, hw1⟩; have hw2 := hw1.symm; subst hw2) | (at_lookup; refine wpList_lookup_held _ rfl _ _ 73 rfl 3 38 kd_int Try.underlying73 zv_call go b.ops.length (mapO b.ops) rfl HA.out.o k rfl HK.out (some (vC x)) HL.out ?_; unfold vC; dsimp only [Option.getD, Option.map, Option.isSome]))
 clear h06
 obtain ⟨W5, hW5⟩ : ∃ W, w.alloc (.cells #[.int .i64 x.f0, .int .u64 x.f1, .int .u64 x.f2, .int .i64 x.f3] 38) = W := ⟨_, rfl⟩
 rw [hW5]
 have n_HA := Aside0.mk (show BookAt W5 p gt go gn (b) from by rw [← hW5]; exact HA.out.below (below_alloc (Below.refl _ _) _))
 have n_HT := Aside0.mk (show Touch (fun k => k = gt ∨ k = gn) w W5 from by rw [← hW5]; exact HT.out.alloc _)
 clear hW5 HA HT
 have HA := n_HA
 have HT := n_HT
 clear n_HA n_HT
 have n_HA := Aside0.mk (HA.out.drew)
 have n_HT := Aside0.mk (HT.out.drew)
 clear HA HT
 have HA := n_HA
 have HT := n_HT
 clear n_HA n_HT
 refine start_ (n := 12) (S := fun w' => w'.cell? ⟨gt, i * 3 + 2, none⟩ = some (.int .i64 mm) ∧ w'.cell? ⟨p, 4, none⟩ = some (.int .i64 b.c.f4)) (ds := []) #[false, false, false, false, false, false, false, false, false, false, false, false] (by kernel_rfl) rfl rfl ⟨(HA.out.cntm i HI.out HMM.out), ((blk_cell HA.out.p 4).trans rfl)⟩ (fun hHeld => ?_); refine with_tabW bk_Make.tab7 bk_Make.bits7 (fun HT_ HW_ => ?_)
 generalize W5.drew = W1 at HA HT hHeld ⊢
 refine pure_ (i := 0) (N := some 28) (v := ?_) (a' := ?_) (lb_ 12 1) rfl rfl (any_of HT_.out (by kernel_rfl)) (fun _ _ _ h => h) (Or.inl ⟨by rfl, ?_⟩) ?_ ?_; rotate_left
 ·intro w'; go_simp; with_reducible rfl
 rotate_left
 ·simp only [Act.put, List.setIfInBounds_toArray, List.set_cons_zero, List.set_cons_succ, i64_w, i32_w]; rfl
 refine pure_ (i := 1) (N := some 29) (v := ?_) (a' := ?_) (lb_ 12 3) rfl rfl (any_of HT_.out (by kernel_rfl)) (fun _ _ _ h => h) (Or.inl ⟨by rfl, ?_⟩) ?_ ?_; rotate_left
 ·intro w'; go_simp; with_reducible rfl
 rotate_left
 ·simp only [Act.put, List.setIfInBounds_toArray, List.set_cons_zero, List.set_cons_succ, i64_w, i32_w]; rfl
 refine pure_ (i := 2) (N := some 30) (v := ?_) (a' := ?_) (lb_ 12 7) rfl rfl (any_of HT_.out (by kernel_rfl)) (fun _ _ _ h => h) (Or.inl ⟨by rfl, ?_⟩) ?_ ?_; rotate_left
 ·intro w'; go_simp; with_reducible rfl
 rotate_left
 ·simp only [Act.put, List.setIfInBounds_toArray, List.set_cons_zero, List.set_cons_succ, i64_w, i32_w]; rfl
 refine pure_ (i := 3) (N := some 31) (v := ?_) (a' := ?_) (lb_ 12 15) rfl rfl (any_of HT_.out (by kernel_rfl)) (fun _ _ _ h => h) (Or.inl ⟨by rfl, ?_⟩) ?_ ?_; rotate_left
 ·intro w'; go_simp; with_reducible rfl
 rotate_left
 ·simp only [Act.put, List.setIfInBounds_toArray, List.set_cons_zero, List.set_cons_succ, i64_w, i32_w]; rfl
 refine pure_ (i := 5) (N := some 33) (v := ?_) (a' := ?_) (lb_ 12 47) rfl rfl (any_of HT_.out (by kernel_rfl)) (fun _ _ _ h => h) (Or.inl ⟨by rfl, ?_⟩) ?_ ?_; rotate_left
 ·intro w'; go_simp; with_reducible rfl
 rotate_left
 ·simp only [Act.put, List.setIfInBounds_toArray, List.set_cons_zero, List.set_cons_succ, i64_w, i32_w]; rfl
 refine pure_ (i := 6) (N := some 34) (v := ?_) (a' := ?_) (lb_ 12 111) rfl rfl (any_of HT_.out (by kernel_rfl)) (fun _ _ _ h => h) (Or.inl ⟨by rfl, ?_⟩) ?_ ?_; rotate_left
 ·intro w'; go_simp; with_reducible rfl
 rotate_left
 ·simp only [Act.put, List.setIfInBounds_toArray, List.set_cons_zero, List.set_cons_succ, i64_w, i32_w]; rfl
 refine pure_ (i := 7) (N := some 35) (v := ?_) (a' := ?_) (lb_ 12 239) rfl rfl (any_of HT_.out (by kernel_rfl)) (fun _ _ _ h => h) (Or.inl ⟨by rfl, ?_⟩) ?_ ?_; rotate_left
 ·intro w'; go_simp; with_reducible rfl
 rotate_left
 ·simp only [Act.put, List.setIfInBounds_toArray, List.set_cons_zero, List.set_cons_succ, i64_w, i32_w]; rfl
 refine pure_ (i := 8) (N := some 36) (v := ?_) (a' := ?_) (lb_ 12 495) rfl rfl (any_of HT_.out (by kernel_rfl)) (fun _ _ _ h => h) (Or.inl ⟨by rfl, ?_⟩) ?_ ?_; rotate_left
 ·intro w'; go_simp; with_reducible rfl
 rotate_left
 ·simp only [Act.put, List.setIfInBounds_toArray, List.set_cons_zero, List.set_cons_succ, i64_w, i32_w]; rfl
 refine take_ (i := 4) (N := some 32) (v := ?_) (a' := ?_) (lb_ 12 511) rfl rfl (take_ofW HT_.out HW_.out (by kernel_rfl)) (fun _ _ _ h => h) (Or.inl ⟨by rfl, ?_⟩) hHeld ?_ ?_; rotate_left
 ·rintro w' ⟨s0, s1⟩; go_simp; with_reducible rfl
 rotate_left
 ·simp only [Act.put, List.setIfInBounds_toArray, List.set_cons_zero, List.set_cons_succ, i64_w, i32_w]; rfl
 refine take_ (i := 9) (N := some 37) (v := ?_) (a' := ?_) (lb_ 12 1023) rfl rfl (take_ofW HT_.out HW_.out (by kernel_rfl)) (fun _ _ _ h => h) (Or.inl ⟨by rfl, ?_⟩) hHeld ?_ ?_; rotate_left
 ·rintro w' ⟨s0, s1⟩; go_simp; with_reducible rfl
 rotate_left
 ·simp only [Act.put, List.setIfInBounds_toArray, List.set_cons_zero, List.set_cons_succ, i64_w, i32_w]; rfl
 refine pure_ (i := 10) (N := some 38) (v := ?_) (a' := ?_) (lb_ 12 2047) rfl rfl (any_of HT_.out (by kernel_rfl)) (fun _ _ _ h => h) (Or.inl ⟨by rfl, ?_⟩) ?_ ?_; rotate_left
 ·intro w'; go_simp; with_reducible rfl
 rotate_left
 ·simp only [Act.put, List.setIfInBounds_toArray, List.set_cons_zero, List.set_cons_succ, i64_w, i32_w]; rfl
 refine pure_ (i := 11) (N := some 39) (v := ?_) (a' := ?_) (lb_ 12 4095) rfl rfl (any_of HT_.out (by kernel_rfl)) (fun _ _ _ h => h) (Or.inl ⟨by rfl, ?_⟩) ?_ ?_; rotate_left
 ·intro w'; go_simp; with_reducible rfl
 rotate_left
 ·simp only [Act.put, List.setIfInBounds_toArray, List.set_cons_zero, List.set_cons_succ, i64_w, i32_w]; rfl
 refine done_ (done_of HT_.out (by kernel_rfl)) ?_
 go_wp2
 go_ret2
 exact ⟨rfl, HA.out, HT.out⟩
set_option maxHeartbeats 8000000 in
set_option maxRecDepth 100000 in
theorem bk_Make_ok (p gt go gn : Nat) (b : RB) (i : Nat) (hi : i < b.calls.length) (k : Int) (hwk : (Lit.int .i64 k).wf = true) (x : S38) (hr : opOf b.ops k = some x) (mm : Int) (hmm : b.made.getD i 0 = mm) (hC0 : 0 ≤ b.c.f4) (hC1 : b.c.f4 ≤ 1000) (hc : ¬ mm = 2 * b.c.f4) (hb0 : 0 ≤ mm) (hb1 : mm ≤ 3000) (nd : Int) (hop : ∀ W, Calls Try.prog 34 #[.agg #[.int .i64 b.c.f0, .int .i64 b.c.f1, .int .i64 b.c.f2, .int .i64 b.c.f3, .int .i64 b.c.f4], .int .i64 (i : Int), .int .i64 mm] W (fun e w' => e = .returned (.int .i64 nd) ∧ Below W.heap.size W w')) (hw : (Lit.int .i64 nd).wf = true) (hs : b.nodes.length < 100000) (w : World) (h : BookAt w p gt go gn (b)) :
  Calls Try.prog 25 #[.pointer (some ⟨p, 0, none⟩), .int .i64 (i : Int), .int .i64 k] w fun e w' => e = .returned (.tuple #[.int .i64 nd, .int .i64 0]) ∧ BookAt w' p gt go gn ((b.mades i).addNode nd k) ∧ Touch (fun k => k = gt ∨ k = gn) w w' := by
 have HLT := Aside0.mk h.lt
 have HA := Aside0.mk h
 have HI := Aside0.mk hi
 have HT := Aside0.mk (Touch.refl (fun k => k = gt ∨ k = gn) w)
 have HK := Aside0.mk (Maps.keyOf_int_mk (P := Try.prog) Try.underlying3 hwk)
 have hlk := lkO b.ops k
 rw [hr] at hlk
 have HL := Aside0.mk hlk
 have h06 := (blk_cell h.p 6).trans rfl
 clear h hi hlk hr hwk
 have HMM := Aside0.mk hmm
 clear hmm
 have hcb : (mm == wrap64 (2 * b.c.f4)) = false := beq_eq_false_iff_ne.2 (by intro e; apply hc; rw [e]; unfold wrap64; omega)
 have HOP := Aside0.mk hop
 have HKEY := Aside0.mk (Maps.keyOf_int_mk (P := Try.prog) Try.underlying3 hw)
 have HS := Aside0.mk hs
 clear hc hop hw hs
 go_enter Try.func25, Try.ntmps25
 go_upto_region 7 with (first | (go_at_call 31; (with_reducible refine (bk_thread_in p gt go gn b i HI.out _ HA.out).mono ?_); rintro e w1 ⟨rfl, hw1⟩; have hw2 := hw1.symm; subst hw2) | (at_lookup; refine wpList_lookup_held _ rfl _ _ 73 rfl 3 38 kd_int Try.underlying73 zv_call go b.ops.length (mapO b.ops) rfl HA.out.o k rfl HK.out (some (vC x)) HL.out ?_; unfold vC; dsimp only [Option.getD, Option.map, Option.isSome]))
 clear h06
 obtain ⟨W5, hW5⟩ : ∃ W, w.alloc (.cells #[.int .i64 x.f0, .int .u64 x.f1, .int .u64 x.f2, .int .i64 x.f3] 38) = W := ⟨_, rfl⟩
 rw [hW5]
 have n_HA := Aside0.mk (show BookAt W5 p gt go gn (b) from by rw [← hW5]; exact HA.out.below (below_alloc (Below.refl _ _) _))
 have n_HT := Aside0.mk (show Touch (fun k => k = gt ∨ k = gn) w W5 from by rw [← hW5]; exact HT.out.alloc _)
 clear hW5 HA HT
 have HA := n_HA
 have HT := n_HT
 clear n_HA n_HT
 have n_HA := Aside0.mk (HA.out.drew)
 have n_HT := Aside0.mk (HT.out.drew)
 clear HA HT
 have HA := n_HA
 have HT := n_HT
 clear n_HA n_HT
 refine start_ (n := 12) (S := fun w' => w'.cell? ⟨gt, i * 3 + 2, none⟩ = some (.int .i64 mm) ∧ w'.cell? ⟨p, 4, none⟩ = some (.int .i64 b.c.f4)) (ds := []) #[false, false, false, false, false, false, false, false, false, false, false, false] (by kernel_rfl) rfl rfl ⟨(HA.out.cntm i HI.out HMM.out), ((blk_cell HA.out.p 4).trans rfl)⟩ (fun hHeld => ?_); refine with_tabW bk_Make.tab7 bk_Make.bits7 (fun HT_ HW_ => ?_)
 generalize W5.drew = W1 at HA HT hHeld ⊢
 refine pure_ (i := 0) (N := some 28) (v := ?_) (a' := ?_) (lb_ 12 1) rfl rfl (any_of HT_.out (by kernel_rfl)) (fun _ _ _ h => h) (Or.inl ⟨by rfl, ?_⟩) ?_ ?_; rotate_left
 ·intro w'; go_simp; with_reducible rfl
 rotate_left
 ·simp only [Act.put, List.setIfInBounds_toArray, List.set_cons_zero, List.set_cons_succ, i64_w, i32_w]; rfl
 refine pure_ (i := 1) (N := some 29) (v := ?_) (a' := ?_) (lb_ 12 3) rfl rfl (any_of HT_.out (by kernel_rfl)) (fun _ _ _ h => h) (Or.inl ⟨by rfl, ?_⟩) ?_ ?_; rotate_left
 ·intro w'; go_simp; with_reducible rfl
 rotate_left
 ·simp only [Act.put, List.setIfInBounds_toArray, List.set_cons_zero, List.set_cons_succ, i64_w, i32_w]; rfl
 refine pure_ (i := 2) (N := some 30) (v := ?_) (a' := ?_) (lb_ 12 7) rfl rfl (any_of HT_.out (by kernel_rfl)) (fun _ _ _ h => h) (Or.inl ⟨by rfl, ?_⟩) ?_ ?_; rotate_left
 ·intro w'; go_simp; with_reducible rfl
 rotate_left
 ·simp only [Act.put, List.setIfInBounds_toArray, List.set_cons_zero, List.set_cons_succ, i64_w, i32_w]; rfl
 refine pure_ (i := 3) (N := some 31) (v := ?_) (a' := ?_) (lb_ 12 15) rfl rfl (any_of HT_.out (by kernel_rfl)) (fun _ _ _ h => h) (Or.inl ⟨by rfl, ?_⟩) ?_ ?_; rotate_left
 ·intro w'; go_simp; with_reducible rfl
 rotate_left
 ·simp only [Act.put, List.setIfInBounds_toArray, List.set_cons_zero, List.set_cons_succ, i64_w, i32_w]; rfl
 refine pure_ (i := 5) (N := some 33) (v := ?_) (a' := ?_) (lb_ 12 47) rfl rfl (any_of HT_.out (by kernel_rfl)) (fun _ _ _ h => h) (Or.inl ⟨by rfl, ?_⟩) ?_ ?_; rotate_left
 ·intro w'; go_simp; with_reducible rfl
 rotate_left
 ·simp only [Act.put, List.setIfInBounds_toArray, List.set_cons_zero, List.set_cons_succ, i64_w, i32_w]; rfl
 refine pure_ (i := 6) (N := some 34) (v := ?_) (a' := ?_) (lb_ 12 111) rfl rfl (any_of HT_.out (by kernel_rfl)) (fun _ _ _ h => h) (Or.inl ⟨by rfl, ?_⟩) ?_ ?_; rotate_left
 ·intro w'; go_simp; with_reducible rfl
 rotate_left
 ·simp only [Act.put, List.setIfInBounds_toArray, List.set_cons_zero, List.set_cons_succ, i64_w, i32_w]; rfl
 refine pure_ (i := 7) (N := some 35) (v := ?_) (a' := ?_) (lb_ 12 239) rfl rfl (any_of HT_.out (by kernel_rfl)) (fun _ _ _ h => h) (Or.inl ⟨by rfl, ?_⟩) ?_ ?_; rotate_left
 ·intro w'; go_simp; with_reducible rfl
 rotate_left
 ·simp only [Act.put, List.setIfInBounds_toArray, List.set_cons_zero, List.set_cons_succ, i64_w, i32_w]; rfl
 refine pure_ (i := 8) (N := some 36) (v := ?_) (a' := ?_) (lb_ 12 495) rfl rfl (any_of HT_.out (by kernel_rfl)) (fun _ _ _ h => h) (Or.inl ⟨by rfl, ?_⟩) ?_ ?_; rotate_left
 ·intro w'; go_simp; with_reducible rfl
 rotate_left
 ·simp only [Act.put, List.setIfInBounds_toArray, List.set_cons_zero, List.set_cons_succ, i64_w, i32_w]; rfl
 refine take_ (i := 4) (N := some 32) (v := ?_) (a' := ?_) (lb_ 12 511) rfl rfl (take_ofW HT_.out HW_.out (by kernel_rfl)) (fun _ _ _ h => h) (Or.inl ⟨by rfl, ?_⟩) hHeld ?_ ?_; rotate_left
 ·rintro w' ⟨s0, s1⟩; go_simp; with_reducible rfl
 rotate_left
 ·simp only [Act.put, List.setIfInBounds_toArray, List.set_cons_zero, List.set_cons_succ, i64_w, i32_w]; rfl
 refine take_ (i := 9) (N := some 37) (v := ?_) (a' := ?_) (lb_ 12 1023) rfl rfl (take_ofW HT_.out HW_.out (by kernel_rfl)) (fun _ _ _ h => h) (Or.inl ⟨by rfl, ?_⟩) hHeld ?_ ?_; rotate_left
 ·rintro w' ⟨s0, s1⟩; go_simp; with_reducible rfl
 rotate_left
 ·simp only [Act.put, List.setIfInBounds_toArray, List.set_cons_zero, List.set_cons_succ, i64_w, i32_w]; rfl
 refine pure_ (i := 10) (N := some 38) (v := ?_) (a' := ?_) (lb_ 12 2047) rfl rfl (any_of HT_.out (by kernel_rfl)) (fun _ _ _ h => h) (Or.inl ⟨by rfl, ?_⟩) ?_ ?_; rotate_left
 ·intro w'; go_simp; with_reducible rfl
 rotate_left
 ·simp only [Act.put, List.setIfInBounds_toArray, List.set_cons_zero, List.set_cons_succ, i64_w, i32_w]; rfl
 refine pure_ (i := 11) (N := some 39) (v := ?_) (a' := ?_) (lb_ 12 4095) rfl rfl (any_of HT_.out (by kernel_rfl)) (fun _ _ _ h => h) (Or.inl ⟨by rfl, ?_⟩) ?_ ?_; rotate_left
 ·intro w'; go_simp; with_reducible rfl
 rotate_left
 ·simp only [Act.put, List.setIfInBounds_toArray, List.set_cons_zero, List.set_cons_succ, i64_w, i32_w]; rfl
 refine done_ (done_of HT_.out (by kernel_rfl)) ?_
 go_upto_region 9 with (fail)
 have n_HA := Aside0.mk (HA.out.drew)
 have n_HT := Aside0.mk (HT.out.drew)
 clear HA HT
 have HA := n_HA
 have HT := n_HT
 clear n_HA n_HT
 refine start_ (n := 12) (S := fun w' => w'.cell? ⟨p, 0, none⟩ = some (.int .i64 b.c.f0) ∧ w'.cell? ⟨p, 1, none⟩ = some (.int .i64 b.c.f1) ∧ w'.cell? ⟨p, 2, none⟩ = some (.int .i64 b.c.f2) ∧ w'.cell? ⟨p, 3, none⟩ = some (.int .i64 b.c.f3) ∧ w'.cell? ⟨p, 4, none⟩ = some (.int .i64 b.c.f4) ∧ w'.cell? ⟨gt, i * 3 + 2, none⟩ = some (.int .i64 mm)) (ds := []) #[false, false, false, false, false, false, false, false, false, false, false, false] (by kernel_rfl) rfl rfl ⟨((blk_cell HA.out.p 0).trans rfl), ((blk_cell HA.out.p 1).trans rfl), ((blk_cell HA.out.p 2).trans rfl), ((blk_cell HA.out.p 3).trans rfl), ((blk_cell HA.out.p 4).trans rfl), (HA.out.cntm i HI.out HMM.out)⟩ (fun hHeld => ?_); refine with_tabW bk_Make.tab9 bk_Make.bits9 (fun HT_ HW_ => ?_)
 generalize W1.drew = W1 at HA HT hHeld ⊢
 refine pure_ (i := 0) (N := some 40) (v := ?_) (a' := ?_) (lb_ 12 1) rfl rfl (any_of HT_.out (by kernel_rfl)) (fun _ _ _ h => h) (Or.inl ⟨by rfl, ?_⟩) ?_ ?_; rotate_left
 ·intro w'; go_simp; with_reducible rfl
 rotate_left
 ·simp only [Act.put, List.setIfInBounds_toArray, List.set_cons_zero, List.set_cons_succ, i64_w, i32_w]; rfl
 refine pure_ (i := 1) (N := some 41) (v := ?_) (a' := ?_) (lb_ 12 3) rfl rfl (any_of HT_.out (by kernel_rfl)) (fun _ _ _ h => h) (Or.inl ⟨by rfl, ?_⟩) ?_ ?_; rotate_left
 ·intro w'; go_simp; with_reducible rfl
 rotate_left
 ·simp only [Act.put, List.setIfInBounds_toArray, List.set_cons_zero, List.set_cons_succ, i64_w, i32_w]; rfl
 refine pure_ (i := 2) (N := some 42) (v := ?_) (a' := ?_) (lb_ 12 7) rfl rfl (any_of HT_.out (by kernel_rfl)) (fun _ _ _ h => h) (Or.inl ⟨by rfl, ?_⟩) ?_ ?_; rotate_left
 ·intro w'; go_simp; with_reducible rfl
 rotate_left
 ·simp only [Act.put, List.setIfInBounds_toArray, List.set_cons_zero, List.set_cons_succ, i64_w, i32_w]; rfl
 refine pure_ (i := 4) (N := some 44) (v := ?_) (a' := ?_) (lb_ 12 23) rfl rfl (any_of HT_.out (by kernel_rfl)) (fun _ _ _ h => h) (Or.inl ⟨by rfl, ?_⟩) ?_ ?_; rotate_left
 ·intro w'; go_simp; with_reducible rfl
 rotate_left
 ·simp only [Act.put, List.setIfInBounds_toArray, List.set_cons_zero, List.set_cons_succ, i64_w, i32_w]; rfl
 refine pure_ (i := 5) (N := some 45) (v := ?_) (a' := ?_) (lb_ 12 55) rfl rfl (any_of HT_.out (by kernel_rfl)) (fun _ _ _ h => h) (Or.inl ⟨by rfl, ?_⟩) ?_ ?_; rotate_left
 ·intro w'; go_simp; with_reducible rfl
 rotate_left
 ·simp only [Act.put, List.setIfInBounds_toArray, List.set_cons_zero, List.set_cons_succ, i64_w, i32_w]; rfl
 refine pure_ (i := 6) (N := some 46) (v := ?_) (a' := ?_) (lb_ 12 119) rfl rfl (any_of HT_.out (by kernel_rfl)) (fun _ _ _ h => h) (Or.inl ⟨by rfl, ?_⟩) ?_ ?_; rotate_left
 ·intro w'; go_simp; with_reducible rfl
 rotate_left
 ·simp only [Act.put, List.setIfInBounds_toArray, List.set_cons_zero, List.set_cons_succ, i64_w, i32_w]; rfl
 refine pure_ (i := 7) (N := some 47) (v := ?_) (a' := ?_) (lb_ 12 247) rfl rfl (any_of HT_.out (by kernel_rfl)) (fun _ _ _ h => h) (Or.inl ⟨by rfl, ?_⟩) ?_ ?_; rotate_left
 ·intro w'; go_simp; with_reducible rfl
 rotate_left
 ·simp only [Act.put, List.setIfInBounds_toArray, List.set_cons_zero, List.set_cons_succ, i64_w, i32_w]; rfl
 refine pure_ (i := 8) (N := some 48) (v := ?_) (a' := ?_) (lb_ 12 503) rfl rfl (any_of HT_.out (by kernel_rfl)) (fun _ _ _ h => h) (Or.inl ⟨by rfl, ?_⟩) ?_ ?_; rotate_left
 ·intro w'; go_simp; with_reducible rfl
 rotate_left
 ·simp only [Act.put, List.setIfInBounds_toArray, List.set_cons_zero, List.set_cons_succ, i64_w, i32_w]; rfl
 refine take_ (i := 3) (N := some 43) (v := ?_) (a' := ?_) (lb_ 12 511) rfl rfl (take_ofW HT_.out HW_.out (by kernel_rfl)) (fun _ _ _ h => h) (Or.inl ⟨by rfl, ?_⟩) hHeld ?_ ?_; rotate_left
 ·rintro w' ⟨s0, s1, s2, s3, s4, s5⟩; go_simp; with_reducible rfl
 rotate_left
 ·simp only [Act.put, List.setIfInBounds_toArray, List.set_cons_zero, List.set_cons_succ, i64_w, i32_w]; rfl
 refine take_ (i := 9) (N := some 49) (v := ?_) (a' := ?_) (lb_ 12 1023) rfl rfl (take_ofW HT_.out HW_.out (by kernel_rfl)) (fun _ _ _ h => h) (Or.inl ⟨by rfl, ?_⟩) hHeld ?_ ?_; rotate_left
 ·rintro w' ⟨s0, s1, s2, s3, s4, s5⟩; go_simp; with_reducible rfl
 rotate_left
 ·simp only [Act.put, List.setIfInBounds_toArray, List.set_cons_zero, List.set_cons_succ, i64_w, i32_w]; rfl
 refine one_ (i := 10) (N := some 50) (lb_ 12 2047) rfl rfl (one_of HT_.out (by kernel_rfl)) (by decide) (fun K hK => ?_)
 refine goes_ Try.func34 (by kernel_rfl) rfl #[.agg #[.int .i64 b.c.f0, .int .i64 b.c.f1, .int .i64 b.c.f2, .int .i64 b.c.f3, .int .i64 b.c.f4], .int .i64 (i : Int), .int .i64 mm] (by rfl) rfl rfl (by (try simp only [List.map_toArray, List.map_cons, List.map_nil]); first | done | rfl) ?_
 with_reducible refine (HOP.out _).mono ?_
 rintro e W6 ⟨rfl, hbk⟩
 refine ⟨_, rfl, ?_⟩
 have n_HA := Aside0.mk (HA.out.below hbk)
 have n_HT := Aside0.mk (HT.out.trans (.of_below hbk))
 clear HA HT
 have HA := n_HA
 have HT := n_HT
 clear n_HA n_HT
 clear hbk
 refine hK.out _ _ ⟨((blk_cell HA.out.p 0).trans rfl), ((blk_cell HA.out.p 1).trans rfl), ((blk_cell HA.out.p 2).trans rfl), ((blk_cell HA.out.p 3).trans rfl), ((blk_cell HA.out.p 4).trans rfl), (HA.out.cntm i HI.out HMM.out)⟩ (fun hHeld => ?_)
 clear hK K
 refine norm_ (a' := ?_) ?_ ?_
 rotate_left
 ·show Act.put _ (some 50) _ = _
  simp only [Act.put, List.setIfInBounds_toArray, List.set_cons_zero, List.set_cons_succ, i64_w, i32_w]
  rfl
 refine pure_ (i := 11) (N := some 11) (v := ?_) (a' := ?_) (lb_ 12 4095) rfl rfl (any_of HT_.out (by kernel_rfl)) (fun _ _ _ h => h) (Or.inl ⟨by rfl, ?_⟩) ?_ ?_; rotate_left
 ·intro w'; go_simp; with_reducible rfl
 rotate_left
 ·simp only [Act.put, List.setIfInBounds_toArray, List.set_cons_zero, List.set_cons_succ, i64_w, i32_w]; rfl
 refine done_ (done_of HT_.out (by kernel_rfl)) ?_
 have c0 := HA.out.cntm i HI.out HMM.out
 have f0 := HA.out.frz (i * 3 + 2)
 go_upto_region 11 with (fail)
 obtain ⟨W7, hW7⟩ : ∃ W, W6.setCell ⟨gt, i * 3 + 2, none⟩ (.int .i64 (mm + 1)) = W := ⟨_, rfl⟩
 rw [hW7]
 have n_HA := Aside0.mk (show BookAt W7 p gt go gn (b.mades i) from by rw [← hW7]; exact (by have := HA.out.mades i HI.out; rwa [HMM.out] at this))
 have n_HT := Aside0.mk (show Touch (fun k => k = gt ∨ k = gn) w W7 from by rw [← hW7]; exact HT.out.set (.inl (.inl rfl)) _)
 clear hW7 HA HT
 have HA := n_HA
 have HT := n_HT
 clear n_HA n_HT
 clear c0 f0
 have h07 := (blk_cell HA.out.p 7).trans rfl
 go_wp2_with (at_mapUpdate; refine wpList_put_held _ rfl _ _ _ 74 rfl 3 3 kd_int Try.underlying74 gn b.nodes.length (mapN b.nodes) rfl HA.out.n (by have := HS.out; unfold maxLen; omega) nd rfl HKEY.out (.int .i64 k) rfl ?_; intro w9 q1 q2; have n_HA := Aside0.mk (show BookAt w9 p gt go gn ((b.mades i).addNode nd k) from HA.out.addNode nd k q1 q2 HS.out); have n_HT := Aside0.mk (HT.out.grown q2 (.inl (.inr rfl))); clear HA HT q1 q2 h07; have HA := n_HA; have HT := n_HT; clear n_HA n_HT)
 go_ret2
 exact ⟨rfl, HA.out, HT.out⟩
def newRB (c : S23) : RB := ⟨c, List.replicate c.f0.toNat 0, List.replicate c.f0.toNat 0, List.replicate c.f0.toNat 0, [], []⟩
theorem info_thread : (Try.prog.info? 84).map (fun i => (i.zero, i.size, i.bytes)) = some (some (.agg #[.int .i64 0, .int .i64 0, .int .i64 0]), 3, 24) := by kernel_rfl
theorem made3 (n i : Nat) (h : i < n) : (madeCells #[.int .i64 0, .int .i64 0, .int .i64 0] (n * 3))[i * 3]? = some (.int .i64 0) ∧ (madeCells #[.int .i64 0, .int .i64 0, .int .i64 0] (n * 3))[i * 3 + 1]? = some (.int .i64 0) ∧ (madeCells #[.int .i64 0, .int .i64 0, .int .i64 0] (n * 3))[i * 3 + 2]? = some (.int .i64 0) := by
 have e0 : i * 3 % 3 = 0 := by omega
 have e1 : (i * 3 + 1) % 3 = 1 := by omega
 have e2 : (i * 3 + 2) % 3 = 2 := by omega
 refine ⟨?_, ?_, ?_⟩
 ·simp [madeCells, show i * 3 < n * 3 from by omega, e0]
 ·simp [madeCells, show i * 3 + 1 < n * 3 from by omega, e1]
 ·simp [madeCells, show i * 3 + 2 < n * 3 from by omega, e2]
theorem run_make_thread (n : Nat) (hn : n ≤ 8) (W : World) : (Instr.makeSlice 72 (.int .i64 (n : Int)) (.int .i64 (n : Int))).run Try.prog W = .ok (.slice (some ⟨W.heap.size, 0, none⟩) n n) (W.alloc (.cells (madeCells #[.int .i64 0, .int .i64 0, .int .i64 0] (n * 3)) 84)) := by
 obtain ⟨i0, hi, hz0, hz1, hz2⟩ := info_parts info_thread
 have h := run_make (P := Try.prog) W 72 84 i0 (.agg #[.int .i64 0, .int .i64 0, .int .i64 0]) Try.underlying72 hi hz0 .i64 .i64 (n : Int) (n : Int) (by omega) (by omega) (by rw [hz2]; omega) (by omega)
 rw [hz1] at h
 simpa [Value.cells] using h
theorem BookAt.new {w : World} {p gt go gn : Nat} (c : S23) (n : Nat) (hn : n ≤ 8) (hc : c.f0 = (n : Int)) (hp : w.heap[p]? = some (.cells #[.int .i64 c.f0, .int .i64 c.f1, .int .i64 c.f2, .int .i64 c.f3, .int .i64 c.f4, .slice (some ⟨gt, 0, none⟩) n n, .map (some go), .map (some gn)] 76 (0, 0))) (ht : w.heap[gt]? = some (.cells (madeCells #[.int .i64 0, .int .i64 0, .int .i64 0] (n * 3)) 84 (0, 0)))
  (ho : w.heap[go]? = some (.map #[] 0)) (hd : w.heap[gn]? = some (.map #[] 0)) (hne : go ≠ gn) : BookAt w p gt go gn (newRB c) := by
 have hl : (newRB c).calls.length = n := by simp [newRB, hc]
 have own : ∀ (W : World) (g : Nat), W.heap[g]? = some (.map #[] 0) → W.ownsMap Try.prog 3 hvH g 0 (.map []) := fun W g hg => ⟨#[], 0, hg, ⟨by simp, MapKept.stamped_empty 0, by simp⟩, Nat.le_refl _, rfl⟩
 refine ⟨by rw [hl]; exact hp, ⟨_, ht, by rw [size_madeCells, hl], fun i hi => ?_⟩, own w go ho, own w gn hd, by simp [newRB], by simp [newRB], ⟨by rw [hl]; exact hn, by simp [newRB], by simp [newRB]⟩, hne⟩
 rw [hl] at hi
 obtain ⟨k0, k1, k2⟩ := made3 n i hi
 refine ⟨?_, ?_, ?_⟩
 ·rw [k0]; simp [newRB]
 ·rw [k1]; simp [newRB, hc, hi]
 ·rw [k2]; simp [newRB, hc, hi]
def bk_New.T4 : Bool × List (List Nat × List Nat) := (true, [([], []), ([], []), ([1], [1]), ([2, 2], [2]), ([], []), ([], []), ([0, 3, 4, 5], [0, 3, 4, 5]), ([6], [6]), ([7, 0, 1, 2, 3, 4, 5, 6, 7], [7]), ([8, 0, 1, 2, 3, 4, 5, 6, 7, 8], [])])
def bk_New.B4 : List Nat := [0, 0, 2, 6, 0, 0, 63, 127, 255, 511]
theorem bk_New.tab4 : rtab .any (opsOf Try.f21 4) = bk_New.T4 := by kernel_rfl
theorem bk_New.bits4 : waitsOk bk_New.T4.2 bk_New.B4 = true := by kernel_rfl
set_option maxHeartbeats 8000000 in
set_option maxRecDepth 100000 in
theorem bk_New_no (c : S23) (e : Int) (he : ¬ e = 0) (w : World) (hm : ∀ W, Calls Try.prog 32 #[.agg #[.int .i64 c.f0, .int .i64 c.f1, .int .i64 c.f2, .int .i64 c.f3, .int .i64 c.f4]] W (fun r w' => r = .returned (.int .i64 e) ∧ Below W.heap.size W w')) :
  Calls Try.prog 21 #[.agg #[.int .i64 c.f0, .int .i64 c.f1, .int .i64 c.f2, .int .i64 c.f3, .int .i64 c.f4]] w fun r w' => r = .returned (.tuple #[.pointer none, .int .i64 e]) ∧ Below w.heap.size w w' := by
 have HM := Aside0.mk hm
 have heb : (e != 0) = true := by simpa using he
 clear hm he
 go_enter Try.func21, Try.ntmps21
 go_wp2_with (go_at_call 32; (with_reducible refine (HM.out _).mono ?_); rintro r w1 ⟨rfl, hbk⟩; have HB := Aside0.mk hbk; clear hbk)
 go_ret2
 exact ⟨rfl, below_step (below_alloc (Below.refl _ _) _) HB.out⟩
set_option maxHeartbeats 8000000 in
set_option maxRecDepth 100000 in
theorem bk_New_ok (c : S23) (n : Nat) (hn : n ≤ 8) (hc : c.f0 = (n : Int)) (w : World) (hm : ∀ W, Calls Try.prog 32 #[.agg #[.int .i64 c.f0, .int .i64 c.f1, .int .i64 c.f2, .int .i64 c.f3, .int .i64 c.f4]] W (fun r w' => r = .returned (.int .i64 0) ∧ Below W.heap.size W w')) :
  Calls Try.prog 21 #[.agg #[.int .i64 c.f0, .int .i64 c.f1, .int .i64 c.f2, .int .i64 c.f3, .int .i64 c.f4]] w fun r w' => ∃ p gt go gn, r = .returned (.tuple #[.pointer (some ⟨p, 0, none⟩), .int .i64 0]) ∧ BookAt w' p gt go gn (newRB c) ∧ Below w.heap.size w w' ∧ w.heap.size ≤ p ∧ w.heap.size ≤ gt ∧ w.heap.size ≤ go ∧ w.heap.size ≤ gn := by
 have HM := Aside0.mk hm
 have HC := Aside0.mk hc
 have HN := Aside0.mk hn
 have HB := Aside0.mk (Below.refl w.heap.size w)
 have hmk := run_make_thread n hn
 rw [← hc] at hmk
 have hmm := @run_makeMap Try.prog
 clear hm hc hn
 go_enter Try.func21, Try.ntmps21
 go_upto_region 4 with (first | ((with_reducible refine gate_dst (N := 1) rfl ?_); refine box_event ?hg (N := 1) ?hd (cs := #[.int .i64 c.f0, .int .i64 c.f1, .int .i64 c.f2, .int .i64 c.f3, .int .i64 c.f4]) (t := 23) ?hr ?_; (case hd => rfl); (case hg => rfl); (case hr => first | (go_simp; done) | (go_simp; rfl)); intro g1 hg w1 hbox hbk; have B1 := Aside0.mk hbox; have n_HB := Aside0.mk (below_step HB.out hbk); clear HB; have HB := n_HB; clear n_HB; have HG1 := Aside0.mk (show g1 = w.heap.size from hg); clear hbk hbox hg; obtain ⟨c1_0, c1_1, c1_2, c1_3, c1_4⟩ := blkc5 B1.out) | (go_at_call 32; (with_reducible refine (HM.out _).mono ?_); rintro r w2 ⟨rfl, hbk⟩; have n1_ := Aside0.mk (blk_below B1.out hbk); have n2_ := Aside0.mk (below_step HB.out hbk); clear B1 HB hbk c1_0 c1_1 c1_2 c1_3 c1_4; have B1 := n1_; have HB := n2_; clear n1_ n2_))
 have n_B1 := Aside0.mk (blk_drew B1.out)
 have n_HB := Aside0.mk (below_drew1 HB.out)
 clear B1 HB
 have B1 := n_B1
 have HB := n_HB
 clear n_B1 n_HB
 refine start_ (n := 10) (S := fun w' => w'.cell? ⟨g1, 0, none⟩ = some (.int .i64 c.f0) ∧ w'.cell? ⟨g1, 1, none⟩ = some (.int .i64 c.f1) ∧ w'.cell? ⟨g1, 2, none⟩ = some (.int .i64 c.f2) ∧ w'.cell? ⟨g1, 3, none⟩ = some (.int .i64 c.f3) ∧ w'.cell? ⟨g1, 4, none⟩ = some (.int .i64 c.f4)) (ds := []) #[false, false, false, false, false, false, false, false, false, false] (by kernel_rfl) rfl rfl ⟨((blk_cell B1.out 0).trans rfl), ((blk_cell B1.out 1).trans rfl), ((blk_cell B1.out 2).trans rfl), ((blk_cell B1.out 3).trans rfl), ((blk_cell B1.out 4).trans rfl)⟩ (fun hHeld => ?_); refine with_tabW bk_New.tab4 bk_New.bits4 (fun HT_ HW_ => ?_)
 generalize w2.drew = W1 at B1 HB hHeld ⊢
 refine pure_ (i := 1) (N := some 11) (v := ?_) (a' := ?_) (lb_ 10 2) rfl rfl (any_of HT_.out (by kernel_rfl)) (fun _ _ _ h => h) (Or.inl ⟨by rfl, ?_⟩) ?_ ?_; rotate_left
 ·intro w'; go_simp; with_reducible rfl
 rotate_left
 ·simp only [Act.put, List.setIfInBounds_toArray, List.set_cons_zero, List.set_cons_succ, i64_w, i32_w]; rfl
 refine take_ (i := 0) (N := some 10) (v := ?_) (a' := ?_) (lb_ 10 3) rfl rfl (take_ofW HT_.out HW_.out (by kernel_rfl)) (fun _ _ _ h => h) (Or.inl ⟨by rfl, ?_⟩) hHeld ?_ ?_; rotate_left
 ·rintro w' ⟨s0, s1, s2, s3, s4⟩; go_simp; with_reducible rfl
 rotate_left
 ·simp only [Act.put, List.setIfInBounds_toArray, List.set_cons_zero, List.set_cons_succ, i64_w, i32_w]; rfl
 refine take_ (i := 2) (N := some 12) (v := ?_) (a' := ?_) (lb_ 10 7) rfl rfl (take_ofW HT_.out HW_.out (by kernel_rfl)) (fun _ _ _ h => h) (Or.inl ⟨by rfl, ?_⟩) hHeld ?_ ?_; rotate_left
 ·rintro w' ⟨s0, s1, s2, s3, s4⟩; go_simp; with_reducible rfl
 rotate_left
 ·simp only [Act.put, List.setIfInBounds_toArray, List.set_cons_zero, List.set_cons_succ, i64_w, i32_w]; rfl
 refine join_ (σ := Nat × Nat × Nat) 4 (lb_ 10 63) (fun s => [(13, .slice (some ⟨s.1, 0, none⟩) n n), (14, .map (some s.2.1)), (15, .map (some s.2.2))]) (fun s w' => Aside0 (w'.heap[g1]? = some (.cells #[.int .i64 c.f0, .int .i64 c.f1, .int .i64 c.f2, .int .i64 c.f3, .int .i64 c.f4] 23 (0, 0))) ∧ Aside0 (Below w.heap.size w w') ∧ Aside0 (w'.heap[s.1]? = some (.cells (madeCells #[.int .i64 0, .int .i64 0, .int .i64 0] (n * 3)) 84 (0, 0))) ∧ Aside0 (w'.heap[s.2.1]? = some (.map #[] 0)) ∧ Aside0 (w'.heap[s.2.2]? = some (.map #[] 0)) ∧ Aside0 (w.heap.size ≤ s.1) ∧ Aside0 (w.heap.size ≤ s.2.1) ∧ Aside0 (w.heap.size ≤ s.2.2) ∧ Aside0 (s.2.1 ≠ s.2.2)) ?_ ?_
 rotate_left
 ·intro hCont
  refine three_ (i := 3) (j := 4) (k := 5) (Ni := some 13) (Nj := some 14) (Nk := some 15) (lb_ 10 15) (lb_ 10 23) (lb_ 10 39) rfl rfl rfl rfl rfl rfl (by kernel_rfl) (by decide) (by decide) (by decide) (fun K hK => ?_) (fun K hK => ?_) (fun K hK => ?_)
  ·skip
   refine value_ (w1 := ?_) (v := ?_) (by rfl) rfl ?_ ?_
   rotate_left 2
   ·go_simp
    constructor
    ·rfl
    ·rfl
   have hbk : Below W1.heap.size W1 (W1.alloc (.cells (madeCells #[.int .i64 0, .int .i64 0, .int .i64 0] (n * 3)) 84)) := below_alloc (Below.refl _ _) _
   have n_B1 := Aside0.mk (blk_below B1.out hbk)
   have n_HB := Aside0.mk (below_step HB.out hbk)
   have B13 := Aside0.mk (blk_new W1 (.cells (madeCells #[.int .i64 0, .int .i64 0, .int .i64 0] (n * 3)) 84))
   have HG13 := Aside0.mk (show w.heap.size ≤ W1.heap.size from HB.out.size)
   clear hbk B1 HB
   have B1 := n_B1
   have HB := n_HB
   clear n_B1 n_HB
   generalize W1.alloc (.cells (madeCells #[.int .i64 0, .int .i64 0, .int .i64 0] (n * 3)) 84) = w13 at B1 HB B13 ⊢
   generalize W1.heap.size = g13 at B13 HG13  ⊢
   refine hK.out _ _ ⟨((blk_cell B1.out 0).trans rfl), ((blk_cell B1.out 1).trans rfl), ((blk_cell B1.out 2).trans rfl), ((blk_cell B1.out 3).trans rfl), ((blk_cell B1.out 4).trans rfl)⟩ (fun hHeld => ?_)
   clear hK K
   refine norm_ (a' := ?_) ?_ ?_
   rotate_left
   ·show Act.put _ (some 13) _ = _
    simp only [Act.put, List.setIfInBounds_toArray, List.set_cons_zero, List.set_cons_succ, i64_w, i32_w]
    rfl
   refine two_ (i := 4) (j := 5) (Ni := some 14) (Nj := some 15) (lb_ 10 31) (lb_ 10 47) rfl rfl rfl rfl (two_of HT_.out (by kernel_rfl)) (by decide) (by decide) (fun K hK => ?_) (fun K hK => ?_)
   ·skip
    refine value_ (w1 := ?_) (v := ?_) (by rfl) rfl ?_ ?_
    rotate_left 2
    ·go_simp
     constructor
     ·rfl
     ·rfl
    have hbk : Below w13.heap.size w13 (w13.alloc (.map #[] 0)) := below_alloc (Below.refl _ _) _
    have n_B1 := Aside0.mk (blk_below B1.out hbk)
    have n_HB := Aside0.mk (below_step HB.out hbk)
    have n_B13 := Aside0.mk (blk_below B13.out hbk)
    have B14 := Aside0.mk (blk_new w13 (.map #[] 0))
    have HG14 := Aside0.mk (show w.heap.size ≤ w13.heap.size from HB.out.size)
    clear hbk B1 HB B13
    have B1 := n_B1
    have HB := n_HB
    have B13 := n_B13
    clear n_B1 n_HB n_B13
    generalize w13.alloc (.map #[] 0) = w14 at B1 HB B13 B14 ⊢
    generalize w13.heap.size = g14 at B14 HG14  ⊢
    refine hK.out _ _ ⟨((blk_cell B1.out 0).trans rfl), ((blk_cell B1.out 1).trans rfl), ((blk_cell B1.out 2).trans rfl), ((blk_cell B1.out 3).trans rfl), ((blk_cell B1.out 4).trans rfl)⟩ (fun hHeld => ?_)
    clear hK K
    refine norm_ (a' := ?_) ?_ ?_
    rotate_left
    ·show Act.put _ (some 14) _ = _
     simp only [Act.put, List.setIfInBounds_toArray, List.set_cons_zero, List.set_cons_succ, i64_w, i32_w]
     rfl
    refine one_ (i := 5) (N := some 15) (lb_ 10 63) rfl rfl (one_of HT_.out (by kernel_rfl)) (by decide) (fun K hK => ?_)
    refine value_ (w1 := ?_) (v := ?_) (by rfl) rfl ?_ ?_
    rotate_left 2
    ·go_simp
     constructor
     ·rfl
     ·rfl
    have hbk : Below w14.heap.size w14 (w14.alloc (.map #[] 0)) := below_alloc (Below.refl _ _) _
    have n_B1 := Aside0.mk (blk_below B1.out hbk)
    have n_HB := Aside0.mk (below_step HB.out hbk)
    have n_B13 := Aside0.mk (blk_below B13.out hbk)
    have n_B14 := Aside0.mk (blk_below B14.out hbk)
    have B15 := Aside0.mk (blk_new w14 (.map #[] 0))
    have HG15 := Aside0.mk (show w.heap.size ≤ w14.heap.size from HB.out.size)
    have HNE := Aside0.mk (show g14 ≠ w14.heap.size from Nat.ne_of_lt (blk_lt B14.out))
    clear hbk B1 HB B13 B14
    have B1 := n_B1
    have HB := n_HB
    have B13 := n_B13
    have B14 := n_B14
    clear n_B1 n_HB n_B13 n_B14
    generalize w14.alloc (.map #[] 0) = w15 at B1 HB B13 B14 B15 ⊢
    generalize w14.heap.size = g15 at B15 HG15 HNE ⊢
    refine hK.out _ _ ⟨((blk_cell B1.out 0).trans rfl), ((blk_cell B1.out 1).trans rfl), ((blk_cell B1.out 2).trans rfl), ((blk_cell B1.out 3).trans rfl), ((blk_cell B1.out 4).trans rfl)⟩ (fun hHeld => ?_)
    clear hK K
    refine norm_ (a' := ?_) ?_ ?_
    rotate_left
    ·show Act.put _ (some 15) _ = _
     simp only [Act.put, List.setIfInBounds_toArray, List.set_cons_zero, List.set_cons_succ, i64_w, i32_w]
     rfl
    exact norm_ (by simp only [putAll, Act.put, List.setIfInBounds_toArray, List.set_cons_zero, List.set_cons_succ]) (hCont (g13, g14, g15) _ ⟨B1, HB, B13, B14, B15, HG13, HG14, HG15, HNE⟩)
   ·skip
    refine value_ (w1 := ?_) (v := ?_) (by rfl) rfl ?_ ?_
    rotate_left 2
    ·go_simp
     constructor
     ·rfl
     ·rfl
    have hbk : Below w13.heap.size w13 (w13.alloc (.map #[] 0)) := below_alloc (Below.refl _ _) _
    have n_B1 := Aside0.mk (blk_below B1.out hbk)
    have n_HB := Aside0.mk (below_step HB.out hbk)
    have n_B13 := Aside0.mk (blk_below B13.out hbk)
    have B15 := Aside0.mk (blk_new w13 (.map #[] 0))
    have HG15 := Aside0.mk (show w.heap.size ≤ w13.heap.size from HB.out.size)
    clear hbk B1 HB B13
    have B1 := n_B1
    have HB := n_HB
    have B13 := n_B13
    clear n_B1 n_HB n_B13
    generalize w13.alloc (.map #[] 0) = w15 at B1 HB B13 B15 ⊢
    generalize w13.heap.size = g15 at B15 HG15  ⊢
    refine hK.out _ _ ⟨((blk_cell B1.out 0).trans rfl), ((blk_cell B1.out 1).trans rfl), ((blk_cell B1.out 2).trans rfl), ((blk_cell B1.out 3).trans rfl), ((blk_cell B1.out 4).trans rfl)⟩ (fun hHeld => ?_)
    clear hK K
    refine norm_ (a' := ?_) ?_ ?_
    rotate_left
    ·show Act.put _ (some 15) _ = _
     simp only [Act.put, List.setIfInBounds_toArray, List.set_cons_zero, List.set_cons_succ, i64_w, i32_w]
     rfl
    refine one_ (i := 4) (N := some 14) (lb_ 10 63) rfl rfl (one_of HT_.out (by kernel_rfl)) (by decide) (fun K hK => ?_)
    refine value_ (w1 := ?_) (v := ?_) (by rfl) rfl ?_ ?_
    rotate_left 2
    ·go_simp
     constructor
     ·rfl
     ·rfl
    have hbk : Below w15.heap.size w15 (w15.alloc (.map #[] 0)) := below_alloc (Below.refl _ _) _
    have n_B1 := Aside0.mk (blk_below B1.out hbk)
    have n_HB := Aside0.mk (below_step HB.out hbk)
    have n_B13 := Aside0.mk (blk_below B13.out hbk)
    have n_B15 := Aside0.mk (blk_below B15.out hbk)
    have B14 := Aside0.mk (blk_new w15 (.map #[] 0))
    have HG14 := Aside0.mk (show w.heap.size ≤ w15.heap.size from HB.out.size)
    have HNE := Aside0.mk (show w15.heap.size ≠ g15 from Nat.ne_of_gt (blk_lt B15.out))
    clear hbk B1 HB B13 B15
    have B1 := n_B1
    have HB := n_HB
    have B13 := n_B13
    have B15 := n_B15
    clear n_B1 n_HB n_B13 n_B15
    generalize w15.alloc (.map #[] 0) = w14 at B1 HB B13 B15 B14 ⊢
    generalize w15.heap.size = g14 at B14 HG14 HNE ⊢
    refine hK.out _ _ ⟨((blk_cell B1.out 0).trans rfl), ((blk_cell B1.out 1).trans rfl), ((blk_cell B1.out 2).trans rfl), ((blk_cell B1.out 3).trans rfl), ((blk_cell B1.out 4).trans rfl)⟩ (fun hHeld => ?_)
    clear hK K
    refine norm_ (a' := ?_) ?_ ?_
    rotate_left
    ·show Act.put _ (some 14) _ = _
     simp only [Act.put, List.setIfInBounds_toArray, List.set_cons_zero, List.set_cons_succ, i64_w, i32_w]
     rfl
    exact norm_ (by simp only [putAll, Act.put, List.setIfInBounds_toArray, List.set_cons_zero, List.set_cons_succ]) (hCont (g13, g14, g15) _ ⟨B1, HB, B13, B14, B15, HG13, HG14, HG15, HNE⟩)
  ·skip
   refine value_ (w1 := ?_) (v := ?_) (by rfl) rfl ?_ ?_
   rotate_left 2
   ·go_simp
    constructor
    ·rfl
    ·rfl
   have hbk : Below W1.heap.size W1 (W1.alloc (.map #[] 0)) := below_alloc (Below.refl _ _) _
   have n_B1 := Aside0.mk (blk_below B1.out hbk)
   have n_HB := Aside0.mk (below_step HB.out hbk)
   have B14 := Aside0.mk (blk_new W1 (.map #[] 0))
   have HG14 := Aside0.mk (show w.heap.size ≤ W1.heap.size from HB.out.size)
   clear hbk B1 HB
   have B1 := n_B1
   have HB := n_HB
   clear n_B1 n_HB
   generalize W1.alloc (.map #[] 0) = w14 at B1 HB B14 ⊢
   generalize W1.heap.size = g14 at B14 HG14  ⊢
   refine hK.out _ _ ⟨((blk_cell B1.out 0).trans rfl), ((blk_cell B1.out 1).trans rfl), ((blk_cell B1.out 2).trans rfl), ((blk_cell B1.out 3).trans rfl), ((blk_cell B1.out 4).trans rfl)⟩ (fun hHeld => ?_)
   clear hK K
   refine norm_ (a' := ?_) ?_ ?_
   rotate_left
   ·show Act.put _ (some 14) _ = _
    simp only [Act.put, List.setIfInBounds_toArray, List.set_cons_zero, List.set_cons_succ, i64_w, i32_w]
    rfl
   refine two_ (i := 3) (j := 5) (Ni := some 13) (Nj := some 15) (lb_ 10 31) (lb_ 10 55) rfl rfl rfl rfl (two_of HT_.out (by kernel_rfl)) (by decide) (by decide) (fun K hK => ?_) (fun K hK => ?_)
   ·skip
    refine value_ (w1 := ?_) (v := ?_) (by rfl) rfl ?_ ?_
    rotate_left 2
    ·go_simp
     constructor
     ·rfl
     ·rfl
    have hbk : Below w14.heap.size w14 (w14.alloc (.cells (madeCells #[.int .i64 0, .int .i64 0, .int .i64 0] (n * 3)) 84)) := below_alloc (Below.refl _ _) _
    have n_B1 := Aside0.mk (blk_below B1.out hbk)
    have n_HB := Aside0.mk (below_step HB.out hbk)
    have n_B14 := Aside0.mk (blk_below B14.out hbk)
    have B13 := Aside0.mk (blk_new w14 (.cells (madeCells #[.int .i64 0, .int .i64 0, .int .i64 0] (n * 3)) 84))
    have HG13 := Aside0.mk (show w.heap.size ≤ w14.heap.size from HB.out.size)
    clear hbk B1 HB B14
    have B1 := n_B1
    have HB := n_HB
    have B14 := n_B14
    clear n_B1 n_HB n_B14
    generalize w14.alloc (.cells (madeCells #[.int .i64 0, .int .i64 0, .int .i64 0] (n * 3)) 84) = w13 at B1 HB B14 B13 ⊢
    generalize w14.heap.size = g13 at B13 HG13  ⊢
    refine hK.out _ _ ⟨((blk_cell B1.out 0).trans rfl), ((blk_cell B1.out 1).trans rfl), ((blk_cell B1.out 2).trans rfl), ((blk_cell B1.out 3).trans rfl), ((blk_cell B1.out 4).trans rfl)⟩ (fun hHeld => ?_)
    clear hK K
    refine norm_ (a' := ?_) ?_ ?_
    rotate_left
    ·show Act.put _ (some 13) _ = _
     simp only [Act.put, List.setIfInBounds_toArray, List.set_cons_zero, List.set_cons_succ, i64_w, i32_w]
     rfl
    refine one_ (i := 5) (N := some 15) (lb_ 10 63) rfl rfl (one_of HT_.out (by kernel_rfl)) (by decide) (fun K hK => ?_)
    refine value_ (w1 := ?_) (v := ?_) (by rfl) rfl ?_ ?_
    rotate_left 2
    ·go_simp
     constructor
     ·rfl
     ·rfl
    have hbk : Below w13.heap.size w13 (w13.alloc (.map #[] 0)) := below_alloc (Below.refl _ _) _
    have n_B1 := Aside0.mk (blk_below B1.out hbk)
    have n_HB := Aside0.mk (below_step HB.out hbk)
    have n_B14 := Aside0.mk (blk_below B14.out hbk)
    have n_B13 := Aside0.mk (blk_below B13.out hbk)
    have B15 := Aside0.mk (blk_new w13 (.map #[] 0))
    have HG15 := Aside0.mk (show w.heap.size ≤ w13.heap.size from HB.out.size)
    have HNE := Aside0.mk (show g14 ≠ w13.heap.size from Nat.ne_of_lt (blk_lt B14.out))
    clear hbk B1 HB B14 B13
    have B1 := n_B1
    have HB := n_HB
    have B14 := n_B14
    have B13 := n_B13
    clear n_B1 n_HB n_B14 n_B13
    generalize w13.alloc (.map #[] 0) = w15 at B1 HB B14 B13 B15 ⊢
    generalize w13.heap.size = g15 at B15 HG15 HNE ⊢
    refine hK.out _ _ ⟨((blk_cell B1.out 0).trans rfl), ((blk_cell B1.out 1).trans rfl), ((blk_cell B1.out 2).trans rfl), ((blk_cell B1.out 3).trans rfl), ((blk_cell B1.out 4).trans rfl)⟩ (fun hHeld => ?_)
    clear hK K
    refine norm_ (a' := ?_) ?_ ?_
    rotate_left
    ·show Act.put _ (some 15) _ = _
     simp only [Act.put, List.setIfInBounds_toArray, List.set_cons_zero, List.set_cons_succ, i64_w, i32_w]
     rfl
    exact norm_ (by simp only [putAll, Act.put, List.setIfInBounds_toArray, List.set_cons_zero, List.set_cons_succ]) (hCont (g13, g14, g15) _ ⟨B1, HB, B13, B14, B15, HG13, HG14, HG15, HNE⟩)
   ·skip
    refine value_ (w1 := ?_) (v := ?_) (by rfl) rfl ?_ ?_
    rotate_left 2
    ·go_simp
     constructor
     ·rfl
     ·rfl
    have hbk : Below w14.heap.size w14 (w14.alloc (.map #[] 0)) := below_alloc (Below.refl _ _) _
    have n_B1 := Aside0.mk (blk_below B1.out hbk)
    have n_HB := Aside0.mk (below_step HB.out hbk)
    have n_B14 := Aside0.mk (blk_below B14.out hbk)
    have B15 := Aside0.mk (blk_new w14 (.map #[] 0))
    have HG15 := Aside0.mk (show w.heap.size ≤ w14.heap.size from HB.out.size)
    have HNE := Aside0.mk (show g14 ≠ w14.heap.size from Nat.ne_of_lt (blk_lt B14.out))
    clear hbk B1 HB B14
    have B1 := n_B1
    have HB := n_HB
    have B14 := n_B14
    clear n_B1 n_HB n_B14
    generalize w14.alloc (.map #[] 0) = w15 at B1 HB B14 B15 ⊢
    generalize w14.heap.size = g15 at B15 HG15 HNE ⊢
    refine hK.out _ _ ⟨((blk_cell B1.out 0).trans rfl), ((blk_cell B1.out 1).trans rfl), ((blk_cell B1.out 2).trans rfl), ((blk_cell B1.out 3).trans rfl), ((blk_cell B1.out 4).trans rfl)⟩ (fun hHeld => ?_)
    clear hK K
    refine norm_ (a' := ?_) ?_ ?_
    rotate_left
    ·show Act.put _ (some 15) _ = _
     simp only [Act.put, List.setIfInBounds_toArray, List.set_cons_zero, List.set_cons_succ, i64_w, i32_w]
     rfl
    refine one_ (i := 3) (N := some 13) (lb_ 10 63) rfl rfl (one_of HT_.out (by kernel_rfl)) (by decide) (fun K hK => ?_)
    refine value_ (w1 := ?_) (v := ?_) (by rfl) rfl ?_ ?_
    rotate_left 2
    ·go_simp
     constructor
     ·rfl
     ·rfl
    have hbk : Below w15.heap.size w15 (w15.alloc (.cells (madeCells #[.int .i64 0, .int .i64 0, .int .i64 0] (n * 3)) 84)) := below_alloc (Below.refl _ _) _
    have n_B1 := Aside0.mk (blk_below B1.out hbk)
    have n_HB := Aside0.mk (below_step HB.out hbk)
    have n_B14 := Aside0.mk (blk_below B14.out hbk)
    have n_B15 := Aside0.mk (blk_below B15.out hbk)
    have B13 := Aside0.mk (blk_new w15 (.cells (madeCells #[.int .i64 0, .int .i64 0, .int .i64 0] (n * 3)) 84))
    have HG13 := Aside0.mk (show w.heap.size ≤ w15.heap.size from HB.out.size)
    clear hbk B1 HB B14 B15
    have B1 := n_B1
    have HB := n_HB
    have B14 := n_B14
    have B15 := n_B15
    clear n_B1 n_HB n_B14 n_B15
    generalize w15.alloc (.cells (madeCells #[.int .i64 0, .int .i64 0, .int .i64 0] (n * 3)) 84) = w13 at B1 HB B14 B15 B13 ⊢
    generalize w15.heap.size = g13 at B13 HG13  ⊢
    refine hK.out _ _ ⟨((blk_cell B1.out 0).trans rfl), ((blk_cell B1.out 1).trans rfl), ((blk_cell B1.out 2).trans rfl), ((blk_cell B1.out 3).trans rfl), ((blk_cell B1.out 4).trans rfl)⟩ (fun hHeld => ?_)
    clear hK K
    refine norm_ (a' := ?_) ?_ ?_
    rotate_left
    ·show Act.put _ (some 13) _ = _
     simp only [Act.put, List.setIfInBounds_toArray, List.set_cons_zero, List.set_cons_succ, i64_w, i32_w]
     rfl
    exact norm_ (by simp only [putAll, Act.put, List.setIfInBounds_toArray, List.set_cons_zero, List.set_cons_succ]) (hCont (g13, g14, g15) _ ⟨B1, HB, B13, B14, B15, HG13, HG14, HG15, HNE⟩)
  ·skip
   refine value_ (w1 := ?_) (v := ?_) (by rfl) rfl ?_ ?_
   rotate_left 2
   ·go_simp
    constructor
    ·rfl
    ·rfl
   have hbk : Below W1.heap.size W1 (W1.alloc (.map #[] 0)) := below_alloc (Below.refl _ _) _
   have n_B1 := Aside0.mk (blk_below B1.out hbk)
   have n_HB := Aside0.mk (below_step HB.out hbk)
   have B15 := Aside0.mk (blk_new W1 (.map #[] 0))
   have HG15 := Aside0.mk (show w.heap.size ≤ W1.heap.size from HB.out.size)
   clear hbk B1 HB
   have B1 := n_B1
   have HB := n_HB
   clear n_B1 n_HB
   generalize W1.alloc (.map #[] 0) = w15 at B1 HB B15 ⊢
   generalize W1.heap.size = g15 at B15 HG15  ⊢
   refine hK.out _ _ ⟨((blk_cell B1.out 0).trans rfl), ((blk_cell B1.out 1).trans rfl), ((blk_cell B1.out 2).trans rfl), ((blk_cell B1.out 3).trans rfl), ((blk_cell B1.out 4).trans rfl)⟩ (fun hHeld => ?_)
   clear hK K
   refine norm_ (a' := ?_) ?_ ?_
   rotate_left
   ·show Act.put _ (some 15) _ = _
    simp only [Act.put, List.setIfInBounds_toArray, List.set_cons_zero, List.set_cons_succ, i64_w, i32_w]
    rfl
   refine two_ (i := 3) (j := 4) (Ni := some 13) (Nj := some 14) (lb_ 10 47) (lb_ 10 55) rfl rfl rfl rfl (two_of HT_.out (by kernel_rfl)) (by decide) (by decide) (fun K hK => ?_) (fun K hK => ?_)
   ·skip
    refine value_ (w1 := ?_) (v := ?_) (by rfl) rfl ?_ ?_
    rotate_left 2
    ·go_simp
     constructor
     ·rfl
     ·rfl
    have hbk : Below w15.heap.size w15 (w15.alloc (.cells (madeCells #[.int .i64 0, .int .i64 0, .int .i64 0] (n * 3)) 84)) := below_alloc (Below.refl _ _) _
    have n_B1 := Aside0.mk (blk_below B1.out hbk)
    have n_HB := Aside0.mk (below_step HB.out hbk)
    have n_B15 := Aside0.mk (blk_below B15.out hbk)
    have B13 := Aside0.mk (blk_new w15 (.cells (madeCells #[.int .i64 0, .int .i64 0, .int .i64 0] (n * 3)) 84))
    have HG13 := Aside0.mk (show w.heap.size ≤ w15.heap.size from HB.out.size)
    clear hbk B1 HB B15
    have B1 := n_B1
    have HB := n_HB
    have B15 := n_B15
    clear n_B1 n_HB n_B15
    generalize w15.alloc (.cells (madeCells #[.int .i64 0, .int .i64 0, .int .i64 0] (n * 3)) 84) = w13 at B1 HB B15 B13 ⊢
    generalize w15.heap.size = g13 at B13 HG13  ⊢
    refine hK.out _ _ ⟨((blk_cell B1.out 0).trans rfl), ((blk_cell B1.out 1).trans rfl), ((blk_cell B1.out 2).trans rfl), ((blk_cell B1.out 3).trans rfl), ((blk_cell B1.out 4).trans rfl)⟩ (fun hHeld => ?_)
    clear hK K
    refine norm_ (a' := ?_) ?_ ?_
    rotate_left
    ·show Act.put _ (some 13) _ = _
     simp only [Act.put, List.setIfInBounds_toArray, List.set_cons_zero, List.set_cons_succ, i64_w, i32_w]
     rfl
    refine one_ (i := 4) (N := some 14) (lb_ 10 63) rfl rfl (one_of HT_.out (by kernel_rfl)) (by decide) (fun K hK => ?_)
    refine value_ (w1 := ?_) (v := ?_) (by rfl) rfl ?_ ?_
    rotate_left 2
    ·go_simp
     constructor
     ·rfl
     ·rfl
    have hbk : Below w13.heap.size w13 (w13.alloc (.map #[] 0)) := below_alloc (Below.refl _ _) _
    have n_B1 := Aside0.mk (blk_below B1.out hbk)
    have n_HB := Aside0.mk (below_step HB.out hbk)
    have n_B15 := Aside0.mk (blk_below B15.out hbk)
    have n_B13 := Aside0.mk (blk_below B13.out hbk)
    have B14 := Aside0.mk (blk_new w13 (.map #[] 0))
    have HG14 := Aside0.mk (show w.heap.size ≤ w13.heap.size from HB.out.size)
    have HNE := Aside0.mk (show w13.heap.size ≠ g15 from Nat.ne_of_gt (blk_lt B15.out))
    clear hbk B1 HB B15 B13
    have B1 := n_B1
    have HB := n_HB
    have B15 := n_B15
    have B13 := n_B13
    clear n_B1 n_HB n_B15 n_B13
    generalize w13.alloc (.map #[] 0) = w14 at B1 HB B15 B13 B14 ⊢
    generalize w13.heap.size = g14 at B14 HG14 HNE ⊢
    refine hK.out _ _ ⟨((blk_cell B1.out 0).trans rfl), ((blk_cell B1.out 1).trans rfl), ((blk_cell B1.out 2).trans rfl), ((blk_cell B1.out 3).trans rfl), ((blk_cell B1.out 4).trans rfl)⟩ (fun hHeld => ?_)
    clear hK K
    refine norm_ (a' := ?_) ?_ ?_
    rotate_left
    ·show Act.put _ (some 14) _ = _
     simp only [Act.put, List.setIfInBounds_toArray, List.set_cons_zero, List.set_cons_succ, i64_w, i32_w]
     rfl
    exact norm_ (by simp only [putAll, Act.put, List.setIfInBounds_toArray, List.set_cons_zero, List.set_cons_succ]) (hCont (g13, g14, g15) _ ⟨B1, HB, B13, B14, B15, HG13, HG14, HG15, HNE⟩)
   ·skip
    refine value_ (w1 := ?_) (v := ?_) (by rfl) rfl ?_ ?_
    rotate_left 2
    ·go_simp
     constructor
     ·rfl
     ·rfl
    have hbk : Below w15.heap.size w15 (w15.alloc (.map #[] 0)) := below_alloc (Below.refl _ _) _
    have n_B1 := Aside0.mk (blk_below B1.out hbk)
    have n_HB := Aside0.mk (below_step HB.out hbk)
    have n_B15 := Aside0.mk (blk_below B15.out hbk)
    have B14 := Aside0.mk (blk_new w15 (.map #[] 0))
    have HG14 := Aside0.mk (show w.heap.size ≤ w15.heap.size from HB.out.size)
    have HNE := Aside0.mk (show w15.heap.size ≠ g15 from Nat.ne_of_gt (blk_lt B15.out))
    clear hbk B1 HB B15
    have B1 := n_B1
    have HB := n_HB
    have B15 := n_B15
    clear n_B1 n_HB n_B15
    generalize w15.alloc (.map #[] 0) = w14 at B1 HB B15 B14 ⊢
    generalize w15.heap.size = g14 at B14 HG14 HNE ⊢
    refine hK.out _ _ ⟨((blk_cell B1.out 0).trans rfl), ((blk_cell B1.out 1).trans rfl), ((blk_cell B1.out 2).trans rfl), ((blk_cell B1.out 3).trans rfl), ((blk_cell B1.out 4).trans rfl)⟩ (fun hHeld => ?_)
    clear hK K
    refine norm_ (a' := ?_) ?_ ?_
    rotate_left
    ·show Act.put _ (some 14) _ = _
     simp only [Act.put, List.setIfInBounds_toArray, List.set_cons_zero, List.set_cons_succ, i64_w, i32_w]
     rfl
    refine one_ (i := 3) (N := some 13) (lb_ 10 63) rfl rfl (one_of HT_.out (by kernel_rfl)) (by decide) (fun K hK => ?_)
    refine value_ (w1 := ?_) (v := ?_) (by rfl) rfl ?_ ?_
    rotate_left 2
    ·go_simp
     constructor
     ·rfl
     ·rfl
    have hbk : Below w14.heap.size w14 (w14.alloc (.cells (madeCells #[.int .i64 0, .int .i64 0, .int .i64 0] (n * 3)) 84)) := below_alloc (Below.refl _ _) _
    have n_B1 := Aside0.mk (blk_below B1.out hbk)
    have n_HB := Aside0.mk (below_step HB.out hbk)
    have n_B15 := Aside0.mk (blk_below B15.out hbk)
    have n_B14 := Aside0.mk (blk_below B14.out hbk)
    have B13 := Aside0.mk (blk_new w14 (.cells (madeCells #[.int .i64 0, .int .i64 0, .int .i64 0] (n * 3)) 84))
    have HG13 := Aside0.mk (show w.heap.size ≤ w14.heap.size from HB.out.size)
    clear hbk B1 HB B15 B14
    have B1 := n_B1
    have HB := n_HB
    have B15 := n_B15
    have B14 := n_B14
    clear n_B1 n_HB n_B15 n_B14
    generalize w14.alloc (.cells (madeCells #[.int .i64 0, .int .i64 0, .int .i64 0] (n * 3)) 84) = w13 at B1 HB B15 B14 B13 ⊢
    generalize w14.heap.size = g13 at B13 HG13  ⊢
    refine hK.out _ _ ⟨((blk_cell B1.out 0).trans rfl), ((blk_cell B1.out 1).trans rfl), ((blk_cell B1.out 2).trans rfl), ((blk_cell B1.out 3).trans rfl), ((blk_cell B1.out 4).trans rfl)⟩ (fun hHeld => ?_)
    clear hK K
    refine norm_ (a' := ?_) ?_ ?_
    rotate_left
    ·show Act.put _ (some 13) _ = _
     simp only [Act.put, List.setIfInBounds_toArray, List.set_cons_zero, List.set_cons_succ, i64_w, i32_w]
     rfl
    exact norm_ (by simp only [putAll, Act.put, List.setIfInBounds_toArray, List.set_cons_zero, List.set_cons_succ]) (hCont (g13, g14, g15) _ ⟨B1, HB, B13, B14, B15, HG13, HG14, HG15, HNE⟩)
 clear B1 HB hHeld
 rintro ⟨g13, g14, g15⟩ w16 ⟨B1, HB, B13, B14, B15, HG13, HG14, HG15, HNE⟩
 have hHeld := (show w16.cell? ⟨g1, 0, none⟩ = some (.int .i64 c.f0) ∧ w16.cell? ⟨g1, 1, none⟩ = some (.int .i64 c.f1) ∧ w16.cell? ⟨g1, 2, none⟩ = some (.int .i64 c.f2) ∧ w16.cell? ⟨g1, 3, none⟩ = some (.int .i64 c.f3) ∧ w16.cell? ⟨g1, 4, none⟩ = some (.int .i64 c.f4) from ⟨((blk_cell B1.out 0).trans rfl), ((blk_cell B1.out 1).trans rfl), ((blk_cell B1.out 2).trans rfl), ((blk_cell B1.out 3).trans rfl), ((blk_cell B1.out 4).trans rfl)⟩)
 dsimp only at B13 B14 B15 HG13 HG14 HG15 HNE
 refine norm_ (a' := ?_) ?_ ?_
 rotate_left
 ·simp only [putAll, Act.put, List.setIfInBounds_toArray, List.set_cons_zero, List.set_cons_succ]
  rfl
 refine pure_ (i := 6) (N := some 16) (v := ?_) (a' := ?_) (lb_ 10 127) rfl rfl (any_of HT_.out (by kernel_rfl)) (fun _ _ _ h => h) (Or.inl ⟨by rfl, ?_⟩) ?_ ?_; rotate_left
 ·intro w'; go_simp; with_reducible rfl
 rotate_left
 ·simp only [Act.put, List.setIfInBounds_toArray, List.set_cons_zero, List.set_cons_succ, i64_w, i32_w]; rfl
 refine one_ (i := 7) (N := some 17) (lb_ 10 255) rfl rfl (one_of HT_.out (by kernel_rfl)) (by decide) (fun K hK => ?_)
 refine value_ (w1 := ?_) (v := ?_) (by rfl) rfl ?_ ?_
 rotate_left 2
 ·go_simp
  constructor
  ·rfl
  ·rfl
 have hbk : Below w16.heap.size w16 (w16.alloc (.cells #[.int .i64 c.f0, .int .i64 c.f1, .int .i64 c.f2, .int .i64 c.f3, .int .i64 c.f4, .slice (some ⟨g13, 0, none⟩) n n, .map (some g14), .map (some g15)] 76)) := below_alloc (Below.refl _ _) _
 have n_B1 := Aside0.mk (blk_below B1.out hbk)
 have n_HB := Aside0.mk (below_step HB.out hbk)
 have n_B13 := Aside0.mk (blk_below B13.out hbk)
 have n_B14 := Aside0.mk (blk_below B14.out hbk)
 have n_B15 := Aside0.mk (blk_below B15.out hbk)
 have B17 := Aside0.mk (blk_new w16 (.cells #[.int .i64 c.f0, .int .i64 c.f1, .int .i64 c.f2, .int .i64 c.f3, .int .i64 c.f4, .slice (some ⟨g13, 0, none⟩) n n, .map (some g14), .map (some g15)] 76))
 have HG17 := Aside0.mk (show w.heap.size ≤ w16.heap.size from HB.out.size)
 clear hbk B1 HB B13 B14 B15
 have B1 := n_B1
 have HB := n_HB
 have B13 := n_B13
 have B14 := n_B14
 have B15 := n_B15
 clear n_B1 n_HB n_B13 n_B14 n_B15
 generalize w16.alloc (.cells #[.int .i64 c.f0, .int .i64 c.f1, .int .i64 c.f2, .int .i64 c.f3, .int .i64 c.f4, .slice (some ⟨g13, 0, none⟩) n n, .map (some g14), .map (some g15)] 76) = w17 at B1 HB B13 B14 B15 B17 ⊢
 generalize w16.heap.size = g17 at B17 HG17 ⊢
 refine hK.out _ _ ⟨((blk_cell B1.out 0).trans rfl), ((blk_cell B1.out 1).trans rfl), ((blk_cell B1.out 2).trans rfl), ((blk_cell B1.out 3).trans rfl), ((blk_cell B1.out 4).trans rfl)⟩ (fun hHeld => ?_)
 clear hK K
 refine norm_ (a' := ?_) ?_ ?_
 rotate_left
 ·show Act.put _ (some 17) _ = _
  simp only [Act.put, List.setIfInBounds_toArray, List.set_cons_zero, List.set_cons_succ, i64_w, i32_w]
  rfl
 refine pure_ (i := 8) (N := some 2) (v := ?_) (a' := ?_) (lb_ 10 511) rfl rfl (any_of HT_.out (by kernel_rfl)) (fun _ _ _ h => h) (Or.inl ⟨by rfl, ?_⟩) ?_ ?_; rotate_left
 ·intro w'; go_simp; with_reducible rfl
 rotate_left
 ·simp only [Act.put, List.setIfInBounds_toArray, List.set_cons_zero, List.set_cons_succ, i64_w, i32_w]; rfl
 refine pure_ (i := 9) (N := some 3) (v := ?_) (a' := ?_) (lb_ 10 1023) rfl rfl (any_of HT_.out (by kernel_rfl)) (fun _ _ _ h => h) (Or.inl ⟨by rfl, ?_⟩) ?_ ?_; rotate_left
 ·intro w'; go_simp; with_reducible rfl
 rotate_left
 ·simp only [Act.put, List.setIfInBounds_toArray, List.set_cons_zero, List.set_cons_succ, i64_w, i32_w]; rfl
 refine done_ (done_of HT_.out (by kernel_rfl)) ?_
 go_wp2
 go_ret2
 exact ⟨g17, g13, g14, g15, rfl, BookAt.new c n HN.out HC.out B17.out B13.out B14.out B15.out HNE.out, HB.out, HG17.out, HG13.out, HG14.out, HG15.out⟩
theorem wrap64_eq {n : Int} (h0 : -9223372036854775808 ≤ n) (h1 : n ≤ 9223372036854775807) : wrap64 n = n := by unfold wrap64; omega
theorem shl_at (j : Nat) (h : j ≤ 6) : shl .i64 1 (j : Int) = 2 ^ j := by
 match j, h with
 | 0, _ => exact (by decide : shl .i64 1 0 = 2 ^ 0)
 | 1, _ => exact (by decide : shl .i64 1 1 = 2 ^ 1)
 | 2, _ => exact (by decide : shl .i64 1 2 = 2 ^ 2)
 | 3, _ => exact (by decide : shl .i64 1 3 = 2 ^ 3)
 | 4, _ => exact (by decide : shl .i64 1 4 = 2 ^ 4)
 | 5, _ => exact (by decide : shl .i64 1 5 = 2 ^ 5)
 | 6, _ => exact (by decide : shl .i64 1 6 = 2 ^ 6)
theorem may_step (k : Nat) (b : Int) (i : Nat) (hi : i < 7) : route_May.l0 (k + 1) b 7 (i : Int) = if b = 2 ^ i then some true else route_May.l0 k b 7 ((i + 1 : Nat) : Int) := by
 simp only [route_May.l0]
 rw [if_pos (by omega), if_pos (by omega), shl_at i (by omega), wrap64_eq (by omega) (by omega)]
 rfl
def isPow (b : Int) : Bool := decide (b = 1 ∨ b = 2 ∨ b = 4 ∨ b = 8 ∨ b = 16 ∨ b = 32 ∨ b = 64)
theorem isPow_le {b : Int} (h : isPow b = true) : 1 ≤ b ∧ b ≤ 64 := by
 have : b = 1 ∨ b = 2 ∨ b = 4 ∨ b = 8 ∨ b = 16 ∨ b = 32 ∨ b = 64 := by simpa [isPow] using h
 omega
theorem may_eq (k : Nat) (b : Int) : route_May.f (k + 8) b = some (isPow b) := by
 have h0 : bits_Len.f 64 = some 7 := by decide
 unfold route_May.f
 rw [h0]
 simp only [Option.bind_some]
 show route_May.l0 (k + 7 + 1) b 7 ((0 : Nat) : Int) = _
 rw [may_step _ _ 0 (by omega), may_step _ _ 1 (by omega), may_step _ _ 2 (by omega), may_step _ _ 3 (by omega), may_step _ _ 4 (by omega), may_step _ _ 5 (by omega), may_step _ _ 6 (by omega)]
 have h7 : route_May.l0 (k + 1) b 7 ((7 : Nat) : Int) = some false := by simp only [route_May.l0]; rw [if_neg (by omega)]
 rw [h7]
 unfold isPow
 by_cases c0 : b = 1
 ·subst c0; rfl
 by_cases c1 : b = 2
 ·subst c1; rfl
 by_cases c2 : b = 4
 ·subst c2; rfl
 by_cases c3 : b = 8
 ·subst c3; rfl
 by_cases c4 : b = 16
 ·subst c4; rfl
 by_cases c5 : b = 32
 ·subst c5; rfl
 by_cases c6 : b = 64
 ·subst c6; rfl
 simp [c0, c1, c2, c3, c4, c5, c6]
def Ok (t b i f c : Int) : Prop := (1 ≤ t ∧ t ≤ 8) ∧ isPow b = true ∧ (0 ≤ i ∧ i ≤ 256) ∧ (0 ≤ f ∧ f ≤ 65536) ∧ (1 ≤ c ∧ c ≤ 256)
instance (t b i f c : Int) : Decidable (Ok t b i f c) := by unfold Ok; infer_instance
theorem within_eq (a l h : Int) : conf_within.f a l h = some (decide (l ≤ a ∧ a ≤ h)) := by
 unfold conf_within.f
 by_cases c : a ≥ l
 ·rw [if_pos c]; congr 1; rw [Bool.eq_iff_iff]; simp; omega
 ·rw [if_neg c]; congr 1; symm; rw [decide_eq_false_iff_not]; omega
theorem all_eq (k : Nat) (a b c d e : Bool) : conf_all.f (k + 6) [a, b, c, d, e] = some (a && (b && (c && (d && e)))) := by
 have w0 : wrap64 1 = 1 := by unfold wrap64; decide
 have w1 : wrap64 2 = 2 := by unfold wrap64; decide
 have w2 : wrap64 3 = 3 := by unfold wrap64; decide
 have w3 : wrap64 4 = 4 := by unfold wrap64; decide
 have w4 : wrap64 5 = 5 := by unfold wrap64; decide
 cases a <;> cases b <;> cases c <;> cases d <;> cases e <;> simp [conf_all.f, conf_all.l0, rdOf, w0, w1, w2, w3, w4]
theorem cmay_eq (k : Nat) (t b i f c : Int) : conf_May.f (k + 8) t b i f c = some (if Ok t b i f c then 0 else 1) := by
 unfold conf_May.f
 rw [within_eq, may_eq, within_eq, within_eq, within_eq]
 simp only [Option.bind_some]
 rw [show k + 8 = (k + 2) + 6 from rfl, all_eq]
 simp only [Option.bind_some]
 by_cases h : Ok t b i f c
 ·rw [if_pos h]
  obtain ⟨h1, h2, h3, h4, h5⟩ := h
  rw [decide_eq_true h1, h2, decide_eq_true h3, decide_eq_true h4, decide_eq_true h5]
  rfl
 ·rw [if_neg h, if_neg]
  intro hh
  simp only [Bool.and_eq_true, decide_eq_true_eq] at hh
  exact h ⟨hh.1, hh.2.1, hh.2.2.1, hh.2.2.2.1, hh.2.2.2.2⟩
theorem mul_le {t c : Int} (h1 : 1 ≤ t) (h2 : t ≤ 8) (h3 : 1 ≤ c) (h4 : c ≤ 256) : 1 ≤ t * c ∧ t ≤ t * c ∧ t * c ≤ 2048 := by
 have ha : t * 1 ≤ t * c := Int.mul_le_mul_of_nonneg_left h3 (by omega)
 have hb : t * c ≤ 8 * c := Int.mul_le_mul_of_nonneg_right h2 (by omega)
 omega
theorem threads_eq (k : Nat) (t b i f c : Int) : layout_threads.f (k + 8) t b i f c = some (if Ok t b i f c then t else 0) := by
 unfold layout_threads.f
 rw [cmay_eq]
 simp only [Option.bind_some]
 by_cases h : Ok t b i f c
 ·simp only [if_pos h]; rfl
 ·simp only [if_neg h]; rfl
theorem bnds {t b i f c : Int} (h : Ok t b i f c) : 1 ≤ t ∧ t ≤ 8 ∧ 1 ≤ b ∧ b ≤ 64 ∧ 1 ≤ c ∧ c ≤ 256 ∧ 1 ≤ t * c ∧ t ≤ t * c ∧ t * c ≤ 2048 := by
 have hm := mul_le h.1.1 h.1.2 h.2.2.2.2.1 h.2.2.2.2.2
 have hb := isPow_le h.2.1
 have h5 := h.2.2.2.2
 have h1 := h.1
 omega
theorem sc_le {s t c : Int} (h0 : 0 ≤ s) (h1 : s < t) (h2 : t ≤ 8) (h3 : 1 ≤ c) (h4 : c ≤ 256) : 0 ≤ s * c ∧ s * c + c ≤ t * c ∧ t * c ≤ 2048 := by
 have ha : 0 * c ≤ s * c := Int.mul_le_mul_of_nonneg_right h0 (by omega)
 have hb : (s + 1) * c ≤ t * c := Int.mul_le_mul_of_nonneg_right (by omega) (by omega)
 have hc : t * c ≤ 8 * c := Int.mul_le_mul_of_nonneg_right h2 (by omega)
 rw [Int.add_mul, Int.one_mul] at hb
 omega
theorem node_eq (k : Nat) (t b i f c s n : Int) (hc0 : -4611686018427387904 ≤ c) (hc1 : c ≤ 4611686018427387903) : layout_Node.f (k + 8) t b i f c s n = some (if Ok t b i f c ∧ (0 ≤ s ∧ s < t) ∧ 0 ≤ n ∧ n < 2 * c then 1 + b + 2 * (s * c) + n else -1) := by
 unfold layout_Node.f layout_of.f
 rw [threads_eq]
 simp only [Option.bind_some]
 by_cases h : Ok t b i f c
 ·have hb := bnds h
  simp only [if_pos h]
  simp only [h, true_and]
  rw [wrap64_eq (n := 2 * c) (by omega) (by omega)]
  by_cases g : n < 0
  ·rw [if_pos g, if_neg (by omega)]
  rw [if_neg g]
  by_cases g2 : n ≥ 2 * c
  ·rw [if_pos g2, if_neg (by omega)]
  rw [if_neg g2]
  by_cases g3 : s < 0
  ·rw [if_pos g3, if_neg (by omega)]
  rw [if_neg g3]
  by_cases g4 : s ≥ t
  ·rw [if_pos g4, if_neg (by omega)]
  have hs := sc_le (s := s) (t := t) (c := c) (by omega) (by omega) (by omega) (by omega) (by omega)
  have e : s * (2 * c) = 2 * (s * c) := by rw [Int.mul_left_comm]
  rw [if_neg g4, if_pos (by omega), e, wrap64_eq (n := 1 + b) (by omega) (by omega), wrap64_eq (n := 2 * (s * c)) (by omega) (by omega), wrap64_eq (n := 1 + b + 2 * (s * c)) (by omega) (by omega), wrap64_eq (by omega) (by omega)]
 ·simp only [if_neg h]
  simp only [h, false_and, if_false]
  split
  ·rfl
  ·split
   ·rfl
   ·split
    ·rfl
    ·rw [if_pos (by omega)]
theorem op_eq (k : Nat) (t b i f c s n : Int) : layout_Op.f (k + 8) t b i f c s n = some (if Ok t b i f c ∧ (0 ≤ s ∧ s < t) ∧ 0 ≤ n ∧ n < c then s * c + n else -1) := by
 unfold layout_Op.f layout_of.f
 rw [threads_eq]
 simp only [Option.bind_some]
 by_cases h : Ok t b i f c
 ·have hb := bnds h
  simp only [if_pos h]
  simp only [h, true_and]
  by_cases g : n < 0
  ·rw [if_pos g, if_neg (by omega)]
  rw [if_neg g]
  by_cases g2 : n ≥ c
  ·rw [if_pos g2, if_neg (by omega)]
  rw [if_neg g2]
  by_cases g3 : s < 0
  ·rw [if_pos g3, if_neg (by omega)]
  rw [if_neg g3]
  by_cases g4 : s ≥ t
  ·rw [if_pos g4, if_neg (by omega)]
  have hs := sc_le (s := s) (t := t) (c := c) (by omega) (by omega) (by omega) (by omega) (by omega)
  rw [if_neg g4, if_pos (by omega), wrap64_eq (n := s * c) (by omega) (by omega), wrap64_eq (n := 0 + s * c) (by omega) (by omega), wrap64_eq (by omega) (by omega)]
  congr 1
  omega
 ·simp only [if_neg h]
  simp only [h, false_and, if_false]
  split
  ·rfl
  ·split
   ·rfl
   ·split
    ·rfl
    ·rw [if_pos (by omega)]
def fOp (l : List S60) (k : Int) : Option S38 := (l.find? (fun x => x.f0 == k)).map (fun x => x.f1)
def fNd (l : List S62) (k : Int) : Option Int := (l.find? (fun x => x.f0 == k)).map (fun x => x.f1)
def sm : List Int → Int
 | [] => 0
 | x :: t => x + sm t
theorem sm_set (l : List Int) : ∀ (i : Nat) (v : Int), i < l.length → l.getD i 0 = v → sm (l.set i (v + 1)) = sm l + 1 := by
 induction l with
 | nil => intro i v h; simp at h
 | cons a t ih =>
  intro i v h hvH
  cases i with
  | zero =>
   have : a = v := by simpa using hvH
   subst this
   simp only [List.set_cons_zero, sm]
   omega
  | succ i =>
   have := ih i v (by simpa using h) (by simpa using hvH)
   simp only [List.set_cons_succ, sm, this]
   omega
theorem sm_le (l : List Int) (m : Int) (h : ∀ i, i < l.length → l.getD i 0 ≤ m) : sm l ≤ l.length * m := by
 induction l with
 | nil => simp [sm]
 | cons a t ih =>
  have h0 := h 0 (by simp)
  have h1 := ih (fun i hi => by have := h (i + 1) (by simpa using hi); simpa using this)
  have h0' : a ≤ m := by simpa using h0
  have e : ((t.length + 1 : Nat) : Int) * m = t.length * m + m := by rw [Int.natCast_add, Int.add_mul]; simp
  rw [sm, List.length_cons, e]
  omega
theorem sm_rep (n : Nat) : sm (List.replicate n 0) = 0 := by
 induction n with
 | zero => rfl
 | succ n ih => rw [List.replicate_succ, sm, ih]; rfl
def opNo (c : S23) (n i : Int) : Int := n * c.f4 + i
def ndNo (c : S23) (n i : Int) : Int := 1 + c.f1 + 2 * (n * c.f4) + i
structure Inv (b : RB) : Prop where
 ok : Ok b.c.f0 b.c.f1 b.c.f2 b.c.f3 b.c.f4
 lc : (b.calls.length : Int) = b.c.f0
 li : b.ins.length = b.calls.length
 lm : b.made.length = b.calls.length
 hc : ∀ i, i < b.calls.length → 0 ≤ b.calls.getD i 0 ∧ b.calls.getD i 0 ≤ b.c.f4
 hi : ∀ i, i < b.calls.length → 0 ≤ b.ins.getD i 0 ∧ b.ins.getD i 0 ≤ b.c.f2
 hm : ∀ i, i < b.calls.length → 0 ≤ b.made.getD i 0 ∧ b.made.getD i 0 ≤ 2 * b.c.f4
 no : (b.ops.length : Int) ≤ sm b.calls
 nn : (b.nodes.length : Int) ≤ sm b.made
 ou : ∀ x ∈ b.ops, ∃ (n : Nat) (i : Int), n < b.calls.length ∧ 0 ≤ i ∧ i < b.calls.getD n 0 ∧ x.f0 = opNo b.c n i
 od : (b.ops.map (fun x => x.f0)).Nodup
 nu : ∀ x ∈ b.nodes, ∃ (n : Nat) (i : Int), n < b.calls.length ∧ 0 ≤ i ∧ i < b.made.getD n 0 ∧ x.f0 = ndNo b.c n i
 nd : (b.nodes.map (fun x => x.f0)).Nodup
 nw : ∀ x ∈ b.nodes, (fOp b.ops x.f1).isSome = true
theorem Inv.small {b : RB} (h : Inv b) : b.calls.length ≤ 8 ∧ b.ops.length ≤ 2048 ∧ b.nodes.length ≤ 4096 ∧ 1 ≤ b.c.f4 ∧ b.c.f4 ≤ 256 ∧ 0 ≤ b.c.f2 ∧ b.c.f2 ≤ 256 ∧ 1 ≤ b.c.f1 ∧ b.c.f1 ≤ 64 ∧ 1 ≤ b.calls.length := by
 obtain ⟨⟨t1, t2⟩, hp, ⟨i1, i2⟩, _, c1, c2⟩ := h.ok
 have hb := isPow_le hp
 have hl := h.lc
 have s1 := sm_le b.calls b.c.f4 (fun i hi => (h.hc i hi).2)
 have s2 := sm_le b.made (2 * b.c.f4) (fun i hi => (h.hm i (by rw [← h.lm]; exact hi)).2)
 have l8 : b.calls.length ≤ 8 := by omega
 have m1 : (b.calls.length : Int) * b.c.f4 ≤ 8 * 256 := Int.mul_le_mul (by omega) (by omega) (by omega) (by omega)
 have m2 : (b.made.length : Int) * (2 * b.c.f4) ≤ 8 * 512 := Int.mul_le_mul (by rw [h.lm]; omega) (by omega) (by omega) (by omega)
 have n1 := h.no
 have n2 := h.nn
 refine ⟨l8, by omega, by omega, c1, c2, i1, i2, hb.1, hb.2, by omega⟩
theorem last_first {α : Type} (f : α → Int) (l : List α) (k : Int) (h : (l.map f).Nodup) : l.foldl (fun r x => if f x = k then some x else r) none = l.find? (fun x => f x == k) := by
 induction l using snocInd with
 | nil => rfl
 | snoc l x ih =>
  rw [List.map_append, List.nodup_append] at h
  obtain ⟨h1, _, h2⟩ := h
  rw [List.foldl_append, List.foldl_cons, List.foldl_nil, List.find?_append, ih h1]
  by_cases e : f x = k
  ·have hn : l.find? (fun x => f x == k) = none := by
    rw [List.find?_eq_none]
    intro y hy hyk
    have : f y = k := by simpa using hyk
    exact h2 (f y) (List.mem_map.2 ⟨y, hy, rfl⟩) (f x) (by simp) (this.trans e.symm)
   rw [if_pos e, hn]
   simp [e]
  ·rw [if_neg e]
   have : (f x == k) = false := beq_eq_false_iff_ne.2 e
   cases l.find? (fun x => f x == k) <;> simp [this]
theorem fold_map {α β : Type} (f : α → Int) (g : α → β) (k : Int) (l : List α) : ∀ r : Option α, l.foldl (fun r x => if f x = k then some (g x) else r) (r.map g) = (l.foldl (fun r x => if f x = k then some x else r) r).map g := by
 induction l with
 | nil => intro r; rfl
 | cons x t ih =>
  intro r
  rw [List.foldl_cons, List.foldl_cons, ← ih]
  congr 1
  split <;> rfl
theorem opOf_f {b : RB} (h : Inv b) (k : Int) : opOf b.ops k = fOp b.ops k := by
 have h1 := fold_map (fun x : S60 => x.f0) (fun x => x.f1) k b.ops none
 have h2 := last_first (fun x : S60 => x.f0) b.ops k h.od
 unfold opOf fOp
 rw [← h2]
 exact h1
theorem ndOf_f {b : RB} (h : Inv b) (k : Int) : ndOf b.nodes k = fNd b.nodes k := by
 have h1 := fold_map (fun x : S62 => x.f0) (fun x => x.f1) k b.nodes none
 have h2 := last_first (fun x : S62 => x.f0) b.nodes k h.nd
 unfold ndOf fNd
 rw [← h2]
 exact h1
theorem opNo_bnd {b : RB} (h : Inv b) {n : Nat} {i : Int} (hn : n < b.calls.length) (h0 : 0 ≤ i) (h1 : i < b.c.f4) : 0 ≤ opNo b.c n i ∧ opNo b.c n i < 2048 := by
 obtain ⟨l8, _, _, c1, c2, _⟩ := h.small
 have m : (n : Int) * b.c.f4 ≤ 7 * b.c.f4 := Int.mul_le_mul_of_nonneg_right (by omega) (by omega)
 have m0 : 0 ≤ (n : Int) * b.c.f4 := Int.mul_nonneg (by omega) (by omega)
 unfold opNo
 omega
theorem ndNo_bnd {b : RB} (h : Inv b) {n : Nat} {i : Int} (hn : n < b.calls.length) (h0 : 0 ≤ i) (h1 : i < 2 * b.c.f4) : 2 ≤ ndNo b.c n i ∧ ndNo b.c n i < 5000 := by
 obtain ⟨l8, _, _, c1, c2, _, _, b1, b2, _⟩ := h.small
 have m : (n : Int) * b.c.f4 ≤ 7 * b.c.f4 := Int.mul_le_mul_of_nonneg_right (by omega) (by omega)
 have m0 : 0 ≤ (n : Int) * b.c.f4 := Int.mul_nonneg (by omega) (by omega)
 unfold ndNo
 omega
theorem split_eq {c : Int} {n m i j : Int} (hc : 0 < c) (h0 : 0 ≤ i) (h1 : i < c) (g0 : 0 ≤ j) (g1 : j < c) (h : n * c + i = m * c + j) : n = m ∧ i = j := by
 have e1 : (n * c + i) / c = n := by rw [Int.add_comm, Int.add_mul_ediv_right _ _ (by omega), Int.ediv_eq_zero_of_lt h0 h1]; omega
 have e2 : (m * c + j) / c = m := by rw [Int.add_comm, Int.add_mul_ediv_right _ _ (by omega), Int.ediv_eq_zero_of_lt g0 g1]; omega
 have : n = m := by rw [← e1, ← e2, h]
 subst this
 exact ⟨rfl, by omega⟩
def begR (b : RB) (n : Int) (x : S38) : RB × Int × Int :=
 if 0 ≤ n ∧ n < (b.calls.length : Int) ∧ 1 ≤ x.f0 ∧ x.f0 ≤ 4 then
  if b.calls.getD n.toNat 0 = b.c.f4 then (b, 0, 2)
  else if x.f0 = 1 then
   if b.ins.getD n.toNat 0 = b.c.f2 then (b.called n.toNat, 0, 3)
   else (((b.called n.toNat).inserted n.toNat).addOp (opNo b.c n (b.calls.getD n.toNat 0)) x, opNo b.c n (b.calls.getD n.toNat 0), 0)
  else ((b.called n.toNat).addOp (opNo b.c n (b.calls.getD n.toNat 0)) x, opNo b.c n (b.calls.getD n.toNat 0), 0)
 else (b, 0, 1)
def mkR (b : RB) (n k : Int) : RB × Int × Int :=
 if 0 ≤ n ∧ n < (b.calls.length : Int) ∧ (fOp b.ops k).isSome = true then
  if b.made.getD n.toNat 0 = 2 * b.c.f4 then (b, 0, 3)
  else ((b.mades n.toNat).addNode (ndNo b.c n (b.made.getD n.toNat 0)) k, ndNo b.c n (b.made.getD n.toNat 0), 0)
 else (b, 0, 1)
theorem Inv.called {b : RB} (h : Inv b) (i : Nat) (hi : i < b.calls.length) (hlt : ¬ b.calls.getD i 0 = b.c.f4) : Inv (b.called i) := by
 have hl : (b.called i).calls.length = b.calls.length := by simp [RB.called]
 have hs := sm_set b.calls i _ hi rfl
 have hg : ∀ j, j < b.calls.length → (b.called i).calls.getD j 0 = if i = j then b.calls.getD i 0 + 1 else b.calls.getD j 0 := fun j hj => getD_set _ _ _ _ hj
 have hci := h.hc i hi
 refine ⟨h.ok, by rw [hl]; exact h.lc, by rw [hl]; exact h.li, by rw [hl]; exact h.lm, fun j hj => ?_, fun j hj => h.hi j (by omega), fun j hj => h.hm j (by omega), ?_, h.nn, fun x hx => ?_, h.od, fun x hx => ?_, h.nd, h.nw⟩
 ·rw [hl] at hj
  rw [hg j hj]
  split
  ·rename_i e
   show 0 ≤ b.calls.getD i 0 + 1 ∧ b.calls.getD i 0 + 1 ≤ b.c.f4
   omega
  ·exact h.hc j hj
 ·have := h.no
  show (b.ops.length : Int) ≤ sm (b.calls.set i (b.calls.getD i 0 + 1))
  omega
 ·obtain ⟨n, q, h1, h2, h3, h4⟩ := h.ou x hx
  refine ⟨n, q, by rw [hl]; exact h1, h2, ?_, h4⟩
  rw [hg n h1]
  split
  ·rename_i e
   subst e
   omega
  ·exact h3
 ·obtain ⟨n, q, h1, h2, h3, h4⟩ := h.nu x hx
  exact ⟨n, q, by rw [hl]; exact h1, h2, h3, h4⟩
theorem Inv.inserted {b : RB} (h : Inv b) (i : Nat) (hi : i < b.calls.length) (hlt : ¬ b.ins.getD i 0 = b.c.f2) : Inv (b.inserted i) := by
 have hg : ∀ j, j < b.calls.length → (b.inserted i).ins.getD j 0 = if i = j then b.ins.getD i 0 + 1 else b.ins.getD j 0 := fun j hj => getD_set _ _ _ _ (by rw [h.li]; exact hj)
 have hii := h.hi i hi
 refine ⟨h.ok, h.lc, by simp [RB.inserted, h.li], h.lm, h.hc, fun j hj => ?_, h.hm, h.no, h.nn, h.ou, h.od, h.nu, h.nd, h.nw⟩
 rw [hg j hj]
 split
 ·show 0 ≤ b.ins.getD i 0 + 1 ∧ b.ins.getD i 0 + 1 ≤ b.c.f2
  omega
 ·exact h.hi j hj
theorem fOp_snoc (l : List S60) (y : S60) (k : Int) (h : (fOp l k).isSome = true) : fOp (l ++ [y]) k = fOp l k := by
 unfold fOp at *
 rw [List.find?_append]
 cases e : l.find? (fun x => x.f0 == k) with
 | none => rw [e] at h; cases h
 | some z => rfl
/-- a new operation behind a call that was counted: its number is none of the elder ones -/
theorem Inv.addOp {b b1 : RB} (h : Inv b) (h1 : Inv b1) (i : Nat) (hi : i < b.calls.length) (hlt : ¬ b.calls.getD i 0 = b.c.f4) (ec : b1.c = b.c) (el : b1.calls = (b.called i).calls) (eo : b1.ops = b.ops) (x : S38) : Inv (b1.addOp (opNo b.c i (b.calls.getD i 0)) x) := by
 have hs := sm_set b.calls i _ hi rfl
 have hl : b1.calls.length = b.calls.length := by rw [el]; simp [RB.called]
 have hci := h.hc i hi
 have hg : b1.calls.getD i 0 = b.calls.getD i 0 + 1 := by rw [el]; show (b.calls.set i _).getD i 0 = _; rw [getD_set _ _ _ _ hi, if_pos rfl]
 refine ⟨h1.ok, h1.lc, h1.li, h1.lm, h1.hc, h1.hi, h1.hm, ?_, h1.nn, fun y hy => ?_, ?_, h1.nu, h1.nd, fun y hy => ?_⟩
 ·have := h.no
  show ((b1.ops ++ [_]).length : Int) ≤ sm b1.calls
  rw [el, eo]
  show ((b.ops ++ [_]).length : Int) ≤ sm (b.calls.set i (b.calls.getD i 0 + 1))
  rw [hs, List.length_append, List.length_singleton]
  omega
 ·rcases List.mem_append.1 hy with hy | hy
  ·exact h1.ou y hy
  ·have : y = ⟨opNo b.c i (b.calls.getD i 0), x⟩ := by simpa using hy
   subst this
   exact ⟨i, b.calls.getD i 0, by show i < b1.calls.length; omega, hci.1, by show _ < b1.calls.getD i 0; omega, by show _ = opNo b1.c _ _; rw [ec]⟩
 ·show ((b1.ops ++ [_]).map _).Nodup
  rw [List.map_append, List.nodup_append]
  refine ⟨h1.od, by simp, fun a ha c hc => ?_⟩
  have : c = opNo b.c i (b.calls.getD i 0) := by simpa using hc
  subst this
  rintro rfl
  rw [eo] at ha
  obtain ⟨y, hy, e⟩ := List.mem_map.1 ha
  obtain ⟨n, q, q1, q2, q3, q4⟩ := h.ou y hy
  have hcn := h.hc n q1
  rw [q4] at e
  unfold opNo at e
  obtain ⟨e1, e2⟩ := split_eq (c := b.c.f4) (n := (n : Int)) (m := (i : Int)) (i := q) (j := b.calls.getD i 0) (by have := h.small; omega) q2 (by omega) hci.1 (by omega) e
  have : n = i := by omega
  subst this
  omega
 ·show (fOp (b1.ops ++ [_]) y.f1).isSome = true
  rw [fOp_snoc _ _ _ (h1.nw y hy)]
  exact h1.nw y hy
theorem Inv.beg {b : RB} (h : Inv b) (n : Int) (x : S38) : Inv (begR b n x).1 := by
 unfold begR
 split
 ·rename_i hc
  obtain ⟨n0, n1, _, _⟩ := hc
  obtain ⟨i, rfl⟩ : ∃ i : Nat, n = (i : Int) := ⟨n.toNat, by omega⟩
  simp only [Int.toNat_natCast]
  have hi : i < b.calls.length := by omega
  split
  ·exact h
  ·rename_i hne
   have h1 := h.called i hi hne
   split
   ·split
    ·exact h1
    ·rename_i hin
     have h2 := h1.inserted i (by simpa [RB.called] using hi) hin
     exact h.addOp h2 i hi hne rfl rfl rfl x
   ·exact h.addOp h1 i hi hne rfl rfl rfl x
 ·exact h
theorem Inv.mades {b : RB} (h : Inv b) (i : Nat) (hi : i < b.calls.length) (hlt : ¬ b.made.getD i 0 = 2 * b.c.f4) : Inv (b.mades i) := by
 have him : i < b.made.length := by rw [h.lm]; exact hi
 have hs := sm_set b.made i _ him rfl
 have hg : ∀ j, j < b.calls.length → (b.mades i).made.getD j 0 = if i = j then b.made.getD i 0 + 1 else b.made.getD j 0 := fun j hj => getD_set _ _ _ _ (by rw [h.lm]; exact hj)
 have hmi := h.hm i hi
 refine ⟨h.ok, h.lc, h.li, by simp [RB.mades, h.lm], h.hc, h.hi, fun j hj => ?_, h.no, ?_, h.ou, h.od, fun x hx => ?_, h.nd, h.nw⟩
 ·rw [hg j hj]
  split
  ·show 0 ≤ b.made.getD i 0 + 1 ∧ b.made.getD i 0 + 1 ≤ 2 * b.c.f4
   omega
  ·exact h.hm j hj
 ·have := h.nn
  show (b.nodes.length : Int) ≤ sm (b.made.set i (b.made.getD i 0 + 1))
  omega
 ·obtain ⟨n, q, h1, h2, h3, h4⟩ := h.nu x hx
  refine ⟨n, q, h1, h2, ?_, h4⟩
  rw [hg n h1]
  split
  ·rename_i e
   subst e
   omega
  ·exact h3
theorem Inv.mkd {b : RB} (h : Inv b) (n k : Int) : Inv (mkR b n k).1 := by
 unfold mkR
 split
 ·rename_i hc
  obtain ⟨n0, n1, hk⟩ := hc
  obtain ⟨i, rfl⟩ : ∃ i : Nat, n = (i : Int) := ⟨n.toNat, by omega⟩
  simp only [Int.toNat_natCast]
  have hi : i < b.calls.length := by omega
  split
  ·exact h
  ·rename_i hne
   have h1 := h.mades i hi hne
   have him : i < b.made.length := by rw [h.lm]; exact hi
   have hs := sm_set b.made i _ him rfl
   have hmi := h.hm i hi
   have hg : (b.mades i).made.getD i 0 = b.made.getD i 0 + 1 := by show (b.made.set i _).getD i 0 = _; rw [getD_set _ _ _ _ him, if_pos rfl]
   refine ⟨h1.ok, h1.lc, h1.li, h1.lm, h1.hc, h1.hi, h1.hm, h1.no, ?_, h1.ou, h1.od, fun y hy => ?_, ?_, fun y hy => ?_⟩
   ·have := h.nn
    show ((b.nodes ++ [_]).length : Int) ≤ sm (b.made.set i (b.made.getD i 0 + 1))
    rw [hs, List.length_append, List.length_singleton]
    omega
   ·rcases List.mem_append.1 hy with hy | hy
    ·exact h1.nu y hy
    ·have : y = ⟨ndNo b.c i (b.made.getD i 0), k⟩ := by simpa using hy
     subst this
     exact ⟨i, b.made.getD i 0, hi, hmi.1, by show _ < (b.mades i).made.getD i 0; omega, rfl⟩
   ·show ((b.nodes ++ [_]).map _).Nodup
    rw [List.map_append, List.nodup_append]
    refine ⟨h.nd, by simp, fun a ha c hc => ?_⟩
    have : c = ndNo b.c i (b.made.getD i 0) := by simpa using hc
    subst this
    rintro rfl
    obtain ⟨y, hy, e⟩ := List.mem_map.1 ha
    obtain ⟨n, q, q1, q2, q3, q4⟩ := h.nu y hy
    have hcn := h.hm n q1
    rw [q4] at e
    unfold ndNo at e
    have e' : (n : Int) * (2 * b.c.f4) + q = (i : Int) * (2 * b.c.f4) + b.made.getD i 0 := by rw [Int.mul_left_comm (n : Int), Int.mul_left_comm (i : Int)]; omega
    obtain ⟨e1, e2⟩ := split_eq (c := 2 * b.c.f4) (n := (n : Int)) (m := (i : Int)) (i := q) (j := b.made.getD i 0) (by have := h.small; omega) q2 (by omega) hmi.1 (by omega) e'
    have : n = i := by omega
    subst this
    omega
   ·rcases List.mem_append.1 hy with hy | hy
    ·exact h1.nw y hy
    ·have : y = ⟨ndNo b.c i (b.made.getD i 0), k⟩ := by simpa using hy
     subst this
     exact hk
 ·exact h
theorem Inv.new (c : S23) (h : Ok c.f0 c.f1 c.f2 c.f3 c.f4) : Inv (newRB c) := by
 obtain ⟨⟨t1, t2⟩, hp, ⟨i1, i2⟩, _, c1, c2⟩ := h
 have hz : ∀ (n i : Nat), (List.replicate n (0 : Int)).getD i 0 = 0 := fun n i => by simp [List.getD, List.getElem?_replicate]; split <;> rfl
 refine ⟨⟨⟨t1, t2⟩, hp, ⟨i1, i2⟩, by assumption, c1, c2⟩, by simp [newRB]; omega, by simp [newRB], by simp [newRB], fun i hi => ?_, fun i hi => ?_, fun i hi => ?_, ?_, ?_, (fun x hx => by cases hx), List.nodup_nil, (fun x hx => by cases hx), List.nodup_nil, (fun x hx => by cases hx)⟩
 ·show 0 ≤ (List.replicate _ (0 : Int)).getD i 0 ∧ (List.replicate _ (0 : Int)).getD i 0 ≤ c.f4
  rw [hz]; omega
 ·show 0 ≤ (List.replicate _ (0 : Int)).getD i 0 ∧ (List.replicate _ (0 : Int)).getD i 0 ≤ c.f2
  rw [hz]; omega
 ·show 0 ≤ (List.replicate _ (0 : Int)).getD i 0 ∧ (List.replicate _ (0 : Int)).getD i 0 ≤ 2 * c.f4
  rw [hz]; omega
 ·show ((0 : Nat) : Int) ≤ sm (List.replicate _ 0)
  rw [sm_rep]; omega
 ·show ((0 : Nat) : Int) ≤ sm (List.replicate _ 0)
  rw [sm_rep]; omega
abbrev T3 (gt go gn : Nat) : Nat → Prop := fun k => k = gt ∨ k = go ∨ k = gn
theorem wf_i64 {n : Int} (h0 : -9223372036854775808 ≤ n) (h1 : n ≤ 9223372036854775807) : (Lit.int .i64 n).wf = true := by
 have h : IntKind.i64.min ≤ n ∧ n ≤ IntKind.i64.max := ⟨h0, h1⟩
 simpa [Lit.wf] using h
theorem lop_calls {b : RB} (h : Inv b) (i : Nat) (hi : i < b.calls.length) (cc : Int) (hcc : b.calls.getD i 0 = cc) (hne : ¬ cc = b.c.f4) : ∀ W, Calls Try.prog 33 #[.agg #[.int .i64 b.c.f0, .int .i64 b.c.f1, .int .i64 b.c.f2, .int .i64 b.c.f3, .int .i64 b.c.f4], .int .i64 (i : Int), .int .i64 cc] W (fun e w' => e = .returned (.int .i64 (opNo b.c i cc)) ∧ Below W.heap.size W w') := fun W => by
 have hb := h.hc i hi
 rw [hcc] at hb
 refine layout_Op.calls 8 b.c.f0 b.c.f1 b.c.f2 b.c.f3 b.c.f4 (i : Int) cc (opNo b.c i cc) W ?_
 rw [op_eq 0, if_pos ⟨h.ok, ⟨by omega, by have := h.lc; omega⟩, hb.1, by omega⟩]
 rfl
theorem lnd_calls {b : RB} (h : Inv b) (i : Nat) (hi : i < b.calls.length) (mm : Int) (hmm : b.made.getD i 0 = mm) (hne : ¬ mm = 2 * b.c.f4) : ∀ W, Calls Try.prog 34 #[.agg #[.int .i64 b.c.f0, .int .i64 b.c.f1, .int .i64 b.c.f2, .int .i64 b.c.f3, .int .i64 b.c.f4], .int .i64 (i : Int), .int .i64 mm] W (fun e w' => e = .returned (.int .i64 (ndNo b.c i mm)) ∧ Below W.heap.size W w') := fun W => by
 have hb := h.hm i hi
 have hs := h.small
 rw [hmm] at hb
 refine layout_Node.calls 8 b.c.f0 b.c.f1 b.c.f2 b.c.f3 b.c.f4 (i : Int) mm (ndNo b.c i mm) W ?_
 rw [node_eq 0 _ _ _ _ _ _ _ (by omega) (by omega), if_pos ⟨h.ok, ⟨by omega, by have := h.lc; omega⟩, hb.1, by omega⟩]
 rfl
theorem p_Begin {b : RB} (hI : Inv b) (p gt go gn : Nat) (n : Int) (x : S38) (W : World) (h : BookAt W p gt go gn b) :
  Calls Try.prog 24 #[.pointer (some ⟨p, 0, none⟩), .int .i64 n, .agg #[.int .i64 x.f0, .int .u64 x.f1, .int .u64 x.f2, .int .i64 x.f3]] W fun e w' => e = .returned (.tuple #[.int .i64 (begR b n x).2.1, .int .i64 (begR b n x).2.2]) ∧ BookAt w' p gt go gn (begR b n x).1 ∧ Touch (T3 gt go gn) W w' := by
 have hs := hI.small
 have wk : ∀ {b' : RB} {n1 n2 : Int} {e : Ending} {w' : World}, e = .returned (.tuple #[.int .i64 n1, .int .i64 n2]) ∧ BookAt w' p gt go gn b' ∧ Touch (fun k => k = gt ∨ k = go) W w' → e = .returned (.tuple #[.int .i64 n1, .int .i64 n2]) ∧ BookAt w' p gt go gn b' ∧ Touch (T3 gt go gn) W w' := fun h => ⟨h.1, h.2.1, h.2.2.mono (fun k hk => hk.elim .inl (fun h => .inr (.inl h)))⟩
 unfold begR
 by_cases c : 0 ≤ n ∧ n < (b.calls.length : Int) ∧ 1 ≤ x.f0 ∧ x.f0 ≤ 4
 ·rw [if_pos c]
  obtain ⟨n0, n1, k1, k4⟩ := c
  obtain ⟨i, rfl⟩ : ∃ i : Nat, n = (i : Int) := ⟨n.toNat, by omega⟩
  simp only [Int.toNat_natCast]
  have hi : i < b.calls.length := by omega
  have hc := hI.hc i hi
  have hii := hI.hi i hi
  by_cases c1 : b.calls.getD i 0 = b.c.f4
  ·rw [if_pos c1]
   exact (bk_Begin_ret p gt go gn b i hi x (by omega) (by omega) _ rfl c1 W h).mono fun _ _ h => wk h
  ·rw [if_neg c1]
   have hop := lop_calls hI i hi _ rfl c1
   have hob := opNo_bnd hI hi hc.1 (by omega)
   by_cases c2 : x.f0 = 1
   ·rw [if_pos c2]
    by_cases c3 : b.ins.getD i 0 = b.c.f2
    ·rw [if_pos c3]
     exact (bk_Begin_full p gt go gn b i hi x (by omega) (by omega) _ rfl c1 hc.1 (by omega) _ hop _ rfl c2 c3 W h).mono fun _ _ h => wk h
    ·rw [if_neg c3]
     exact (bk_Begin_ins p gt go gn b i hi x (by omega) (by omega) _ rfl c1 hc.1 (by omega) _ hop _ rfl c2 c3 hii.1 (by omega) (wf_i64 (by omega) (by omega)) (by omega) W h).mono fun _ _ h => wk h
   ·rw [if_neg c2]
    exact (bk_Begin_oth p gt go gn b i hi x (by omega) (by omega) _ rfl c1 hc.1 (by omega) _ hop c2 (wf_i64 (by omega) (by omega)) (by omega) W h).mono fun _ _ h => wk h
 ·rw [if_neg c]
  by_cases c1 : 0 ≤ n ∧ n < (b.calls.length : Int)
  ·obtain ⟨i, rfl⟩ : ∃ i : Nat, n = (i : Int) := ⟨n.toNat, by omega⟩
   exact (bk_Begin_bad p gt go gn b i (by omega) x (by omega) W h).mono fun _ _ h => wk h
  ·exact (bk_Begin_out p gt go gn b n (by omega) x W h).mono fun _ _ h => wk h
theorem p_Make {b : RB} (hI : Inv b) (p gt go gn : Nat) (n k : Int) (hk : (Lit.int .i64 k).wf = true) (W : World) (h : BookAt W p gt go gn b) :
  Calls Try.prog 25 #[.pointer (some ⟨p, 0, none⟩), .int .i64 n, .int .i64 k] W fun e w' => e = .returned (.tuple #[.int .i64 (mkR b n k).2.1, .int .i64 (mkR b n k).2.2]) ∧ BookAt w' p gt go gn (mkR b n k).1 ∧ Touch (T3 gt go gn) W w' := by
 have hs := hI.small
 have wk : ∀ {b' : RB} {n1 n2 : Int} {e : Ending} {w' : World}, e = .returned (.tuple #[.int .i64 n1, .int .i64 n2]) ∧ BookAt w' p gt go gn b' ∧ Touch (fun k => k = gt ∨ k = gn) W w' → e = .returned (.tuple #[.int .i64 n1, .int .i64 n2]) ∧ BookAt w' p gt go gn b' ∧ Touch (T3 gt go gn) W w' := fun h => ⟨h.1, h.2.1, h.2.2.mono (fun k hk => hk.elim .inl (fun h => .inr (.inr h)))⟩
 unfold mkR
 by_cases c : 0 ≤ n ∧ n < (b.calls.length : Int) ∧ (fOp b.ops k).isSome = true
 ·rw [if_pos c]
  obtain ⟨n0, n1, hf⟩ := c
  obtain ⟨i, rfl⟩ : ∃ i : Nat, n = (i : Int) := ⟨n.toNat, by omega⟩
  simp only [Int.toNat_natCast]
  have hi : i < b.calls.length := by omega
  have hm := hI.hm i hi
  obtain ⟨x, hx⟩ := Option.isSome_iff_exists.1 hf
  have hx' : opOf b.ops k = some x := by rw [opOf_f hI]; exact hx
  by_cases c1 : b.made.getD i 0 = 2 * b.c.f4
  ·rw [if_pos c1]
   exact (bk_Make_full p gt go gn b i hi k hk x hx' _ rfl (by omega) (by omega) c1 W h).mono fun _ _ h => wk h
  ·rw [if_neg c1]
   have hnb := ndNo_bnd hI hi hm.1 (by omega)
   exact (bk_Make_ok p gt go gn b i hi k hk x hx' _ rfl (by omega) (by omega) c1 hm.1 (by omega) _ (lnd_calls hI i hi _ rfl c1) (wf_i64 (by omega) (by omega)) (by omega) W h).mono fun _ _ h => wk h
 ·rw [if_neg c]
  by_cases c1 : 0 ≤ n ∧ n < (b.calls.length : Int)
  ·obtain ⟨i, rfl⟩ : ∃ i : Nat, n = (i : Int) := ⟨n.toNat, by omega⟩
   have hn : opOf b.ops k = none := by
    rw [opOf_f hI]
    cases e : fOp b.ops k with
    | none => rfl
    | some x => exact absurd ⟨c1.1, c1.2, by rw [e]; rfl⟩ c
   exact (bk_Make_none p gt go gn b i (by omega) k hk hn W h).mono fun _ _ h => wk h
  ·exact (bk_Make_out p gt go gn b n (by omega) k W h).mono fun _ _ h => wk h
theorem put10 {W : World} {g t : Nat} {z0 z1 z2 z3 z4 z5 z6 z7 z8 z9 v0 v1 v2 v3 v4 v5 v6 v7 v8 v9 : Value} (h : W.heap[g]? = some (.cells #[z0, z1, z2, z3, z4, z5, z6, z7, z8, z9] t (0, 0))) : ((((((((((W.setCell ⟨g, 0, none⟩ v0).setCell ⟨g, 1, none⟩ v1).setCell ⟨g, 2, none⟩ v2).setCell ⟨g, 3, none⟩ v3).setCell ⟨g, 4, none⟩ v4).setCell ⟨g, 5, none⟩ v5).setCell ⟨g, 6, none⟩ v6).setCell ⟨g, 7, none⟩ v7).setCell ⟨g, 8, none⟩ v8).setCell ⟨g, 9, none⟩ v9).heap[g]? = some (.cells #[v0, v1, v2, v3, v4, v5, v6, v7, v8, v9] t (0, 0)) := by
 have h1 := (cel_put (cel_put (cel_put (cel_put (cel_put (cel_put (cel_put (cel_put (cel_put (cel_put h (i := 0) v0) (i := 1) v1) (i := 2) v2) (i := 3) v3) (i := 4) v4) (i := 5) v5) (i := 6) v6) (i := 7) v7) (i := 8) v8) (i := 9) v9)
 simp only [List.setIfInBounds_toArray, List.set_cons_zero, List.set_cons_succ] at h1
 exact h1
theorem bel10 {w0 W : World} {N g : Nat} {v0 v1 v2 v3 v4 v5 v6 v7 v8 v9 : Value} (hb : Below N w0 W) (hg : N ≤ g) : Below N w0 ((((((((((W.setCell ⟨g, 0, none⟩ v0).setCell ⟨g, 1, none⟩ v1).setCell ⟨g, 2, none⟩ v2).setCell ⟨g, 3, none⟩ v3).setCell ⟨g, 4, none⟩ v4).setCell ⟨g, 5, none⟩ v5).setCell ⟨g, 6, none⟩ v6).setCell ⟨g, 7, none⟩ v7).setCell ⟨g, 8, none⟩ v8).setCell ⟨g, 9, none⟩ v9) := ((((((((((hb.setCell (p := ⟨g, 0, none⟩) hg v0).setCell (p := ⟨g, 1, none⟩) hg v1).setCell (p := ⟨g, 2, none⟩) hg v2).setCell (p := ⟨g, 3, none⟩) hg v3).setCell (p := ⟨g, 4, none⟩) hg v4).setCell (p := ⟨g, 5, none⟩) hg v5).setCell (p := ⟨g, 6, none⟩) hg v6).setCell (p := ⟨g, 7, none⟩) hg v7).setCell (p := ⟨g, 8, none⟩) hg v8).setCell (p := ⟨g, 9, none⟩) hg v9)
theorem p_New (c : S23) (h : Ok c.f0 c.f1 c.f2 c.f3 c.f4) (W : World) :
  Calls Try.prog 21 #[.agg #[.int .i64 c.f0, .int .i64 c.f1, .int .i64 c.f2, .int .i64 c.f3, .int .i64 c.f4]] W fun r w' => ∃ p gt go gn, r = .returned (.tuple #[.pointer (some ⟨p, 0, none⟩), .int .i64 0]) ∧ BookAt w' p gt go gn (newRB c) ∧ Below W.heap.size W w' ∧ W.heap.size ≤ p ∧ W.heap.size ≤ gt ∧ W.heap.size ≤ go ∧ W.heap.size ≤ gn :=
 bk_New_ok c c.f0.toNat (by have := h.1; omega) (by have := h.1; omega) W (fun W => conf_May.calls 8 c.f0 c.f1 c.f2 c.f3 c.f4 0 W (by rw [cmay_eq 0, if_pos h]))
theorem p_New_no (c : S23) (h : ¬ Ok c.f0 c.f1 c.f2 c.f3 c.f4) (W : World) :
  Calls Try.prog 21 #[.agg #[.int .i64 c.f0, .int .i64 c.f1, .int .i64 c.f2, .int .i64 c.f3, .int .i64 c.f4]] W fun r w' => r = .returned (.tuple #[.pointer none, .int .i64 1]) ∧ Below W.heap.size W w' :=
 bk_New_no c 1 (by decide) W (fun W => conf_May.calls 8 c.f0 c.f1 c.f2 c.f3 c.f4 1 W (by rw [cmay_eq 0, if_neg h]))
theorem grown_set {W W1 : World} {g j : Nat} (h : W.grownBy W1 (some g)) (v : Value) : W.grownBy (W1.setCell ⟨g, j, none⟩ v) (some g) :=
 ⟨h.os, h.tape, h.output, Nat.le_trans h.size (by simp), fun k hk hne => (Below.heap_setCell W1 ⟨g, j, none⟩ v k (fun e => hne (by rw [e]))).trans (h.block k hk hne)⟩
theorem grown_self (W : World) (g : Nat) : W.grownBy W (some g) := ⟨rfl, rfl, rfl, Nat.le_refl _, fun _ _ _ => rfl⟩
theorem grown10 (W : World) (g : Nat) {v0 v1 v2 v3 v4 v5 v6 v7 v8 v9 : Value} : W.grownBy ((((((((((W.setCell ⟨g, 0, none⟩ (v0)).setCell ⟨g, 1, none⟩ (v1)).setCell ⟨g, 2, none⟩ (v2)).setCell ⟨g, 3, none⟩ (v3)).setCell ⟨g, 4, none⟩ (v4)).setCell ⟨g, 5, none⟩ (v5)).setCell ⟨g, 6, none⟩ (v6)).setCell ⟨g, 7, none⟩ (v7)).setCell ⟨g, 8, none⟩ (v8)).setCell ⟨g, 9, none⟩ (v9)) (some g) := (grown_set (grown_set (grown_set (grown_set (grown_set (grown_set (grown_set (grown_set (grown_set (grown_set (grown_self W g) v0) v1) v2) v3) v4) v5) v6) v7) v8) v9)
theorem blk_grown {W W1 : World} {g k : Nat} {ob : Obj} (h : W.heap[k]? = some ob) (hg : W.grownBy W1 (some g)) (hne : k ≠ g) : W1.heap[k]? = some ob :=
 (hg.block k ((Array.getElem?_eq_some_iff.mp h).1) (fun e => hne (Option.some.inj e))).trans h
theorem BookAt.far {w w1 : World} {p gt go gn : Nat} {b : RB} (h : BookAt w p gt go gn b) {g : Nat} (k : w.grownBy w1 (some g)) (hn : p ≠ g ∧ gt ≠ g ∧ go ≠ g ∧ gn ≠ g) : BookAt w1 p gt go gn b := by
 obtain ⟨cs, t1, t2⟩ := h.t
 exact ⟨blk_grown h.p k hn.1, ⟨cs, blk_grown t1 k hn.2.1, t2⟩, h.o.kept k (fun e => hn.2.2.1 (Option.some.inj e)), h.n.kept k (fun e => hn.2.2.2 (Option.some.inj e)), h.li, h.lm, h.small, h.ne⟩
theorem blk_touch {S : Nat → Prop} {W W1 : World} {k : Nat} {ob : Obj} (h : W.heap[k]? = some ob) (ht : Touch S W W1) (hs : ¬ S k) : W1.heap[k]? = some ob :=
 (ht.block k ((Array.getElem?_eq_some_iff.mp h).1) hs).trans h
theorem grown4 (W : World) (g : Nat) {v0 v1 v2 v3 : Value} : W.grownBy ((((W.setCell ⟨g, 0, none⟩ v0).setCell ⟨g, 1, none⟩ v1).setCell ⟨g, 2, none⟩ v2).setCell ⟨g, 3, none⟩ v3) (some g) := grown_set (grown_set (grown_set (grown_set (grown_self W g) v0) v1) v2) v3
theorem put4 {W : World} {g t : Nat} {z0 z1 z2 z3 v0 v1 v2 v3 : Value} (h : W.heap[g]? = some (.cells #[z0, z1, z2, z3] t (0, 0))) : ((((W.setCell ⟨g, 0, none⟩ v0).setCell ⟨g, 1, none⟩ v1).setCell ⟨g, 2, none⟩ v2).setCell ⟨g, 3, none⟩ v3).heap[g]? = some (.cells #[v0, v1, v2, v3] t (0, 0)) := by
 have h1 := (cel_put (cel_put (cel_put (cel_put h (i := 0) v0) (i := 1) v1) (i := 2) v2) (i := 3) v3)
 simpa only [List.setIfInBounds_toArray, List.set_cons_zero, List.set_cons_succ] using h1
def awC : S23 := ⟨2, 1, 1, 5, 2⟩
theorem awOk : Ok awC.f0 awC.f1 awC.f2 awC.f3 awC.f4 := by decide +kernel
def awX1 : S38 := ⟨1, 9, 0, 0⟩
def awX2 : S38 := ⟨1, 0, 0, 0⟩
def awX3 : S38 := ⟨3, 0, 0, 0⟩
def aw0 : RB := newRB awC
def aw1 : RB := (begR aw0 1 awX1).1
def aw2 : RB := (mkR aw1 0 2).1
def aw3 : RB := (begR aw2 1 awX2).1
def aw4 : RB := (begR aw3 1 awX3).1
def aw5 : RB := (mkR aw4 0 3).1
theorem awI0 : Inv aw0 := Inv.new awC awOk
theorem awI1 : Inv aw1 := awI0.beg _ _
theorem awI2 : Inv aw2 := awI1.mkd _ _
theorem awI3 : Inv aw3 := awI2.beg _ _
theorem awI4 : Inv aw4 := awI3.beg _ _
def corrielaw07_awake.f : Option Bool := some true
set_option maxHeartbeats 8000000 in
set_option maxRecDepth 100000 in
theorem corrielaw07_awake.calls (r : Bool) (w : World) (h : corrielaw07_awake.f = some r) :
  Calls Try.prog 8 #[] w fun e w' => e = .returned (.bool r) ∧ Below w.heap.size w w' := by
 obtain rfl := Option.some.inj h
 clear h
 have HB := Aside0.mk (Below.refl w.heap.size w)
 have H1 := Aside0.mk (show ∀ (W : World) (p gt go gn : Nat), BookAt W p gt go gn aw0 → Calls Try.prog 24 #[.pointer (some ⟨p, 0, none⟩), .int .i64 1, .agg #[.int .i64 1, .int .u64 9, .int .u64 0, .int .i64 0]] W (fun e w' => e = .returned (.tuple #[.int .i64 2, .int .i64 0]) ∧ BookAt w' p gt go gn aw1 ∧ Touch (T3 gt go gn) W w') from fun W p gt go gn h => by
  have h2 := p_Begin awI0 p gt go gn 1 awX1 W h
  rw [show (begR aw0 1 awX1).2.1 = 2 from by kernel_rfl, show (begR aw0 1 awX1).2.2 = 0 from by kernel_rfl] at h2
  exact h2)
 have H2 := Aside0.mk (show ∀ (W : World) (p gt go gn : Nat), BookAt W p gt go gn aw1 → Calls Try.prog 25 #[.pointer (some ⟨p, 0, none⟩), .int .i64 0, .int .i64 2] W (fun e w' => e = .returned (.tuple #[.int .i64 2, .int .i64 0]) ∧ BookAt w' p gt go gn aw2 ∧ Touch (T3 gt go gn) W w') from fun W p gt go gn h => by
  have h2 := p_Make awI1 p gt go gn 0 2 (by decide) W h
  rw [show (mkR aw1 0 2).2.1 = 2 from by kernel_rfl, show (mkR aw1 0 2).2.2 = 0 from by kernel_rfl] at h2
  exact h2)
 have H3 := Aside0.mk (show ∀ (W : World) (p gt go gn : Nat), BookAt W p gt go gn aw2 → Calls Try.prog 24 #[.pointer (some ⟨p, 0, none⟩), .int .i64 1, .agg #[.int .i64 1, .int .u64 0, .int .u64 0, .int .i64 0]] W (fun e w' => e = .returned (.tuple #[.int .i64 0, .int .i64 3]) ∧ BookAt w' p gt go gn aw3 ∧ Touch (T3 gt go gn) W w') from fun W p gt go gn h => by
  have h2 := p_Begin awI2 p gt go gn 1 awX2 W h
  rw [show (begR aw2 1 awX2).2.1 = 0 from by kernel_rfl, show (begR aw2 1 awX2).2.2 = 3 from by kernel_rfl] at h2
  exact h2)
 have H4 := Aside0.mk (show ∀ (W : World) (p gt go gn : Nat), BookAt W p gt go gn aw3 → Calls Try.prog 24 #[.pointer (some ⟨p, 0, none⟩), .int .i64 1, .agg #[.int .i64 3, .int .u64 0, .int .u64 0, .int .i64 0]] W (fun e w' => e = .returned (.tuple #[.int .i64 0, .int .i64 2]) ∧ BookAt w' p gt go gn aw4 ∧ Touch (T3 gt go gn) W w') from fun W p gt go gn h => by
  have h2 := p_Begin awI3 p gt go gn 1 awX3 W h
  rw [show (begR aw3 1 awX3).2.1 = 0 from by kernel_rfl, show (begR aw3 1 awX3).2.2 = 2 from by kernel_rfl] at h2
  exact h2)
 have H5 := Aside0.mk (show ∀ (W : World) (p gt go gn : Nat), BookAt W p gt go gn aw4 → Calls Try.prog 25 #[.pointer (some ⟨p, 0, none⟩), .int .i64 0, .int .i64 3] W (fun e w' => e = .returned (.tuple #[.int .i64 0, .int .i64 1]) ∧ BookAt w' p gt go gn aw5 ∧ Touch (T3 gt go gn) W w') from fun W p gt go gn h => by
  have h2 := p_Make awI4 p gt go gn 0 3 (by decide) W h
  rw [show (mkR aw4 0 3).2.1 = 0 from by kernel_rfl, show (mkR aw4 0 3).2.2 = 1 from by kernel_rfl] at h2
  exact h2)
 have H6 := Aside0.mk (show ∀ (W : World) (p gt go gn : Nat), BookAt W p gt go gn aw5 → Calls Try.prog 12 #[.pointer (some ⟨p, 0, none⟩), .int .i64 2] W (fun e w' => e = .returned (.tuple #[.agg #[.int .i64 1, .int .u64 9, .int .u64 0, .int .i64 0], .int .i64 0]) ∧ Below W.heap.size W w') from fun W p gt go gn h => by
  have h2 := bk_Call p gt go gn aw5 2 (by decide) W h
  rw [show vC (opC (opOf aw5.ops 2)) = .agg #[.int .i64 1, .int .u64 9, .int .u64 0, .int .i64 0] from by kernel_rfl, show opE (opOf aw5.ops 2) = 0 from by kernel_rfl] at h2
  exact h2)
 have H7 := Aside0.mk (show ∀ (W : World) (p gt go gn : Nat), BookAt W p gt go gn aw5 → Calls Try.prog 15 #[.pointer (some ⟨p, 0, none⟩), .int .i64 2] W (fun e w' => e = .returned (.int .i64 2) ∧ w' = W) from fun W p gt go gn h => by
  have h2 := bk_Carried p gt go gn aw5 2 (by decide) W h
  rw [show ndR (ndOf aw5.nodes 2) = 2 from by kernel_rfl] at h2
  exact h2)
 have H8 := Aside0.mk (show ∀ (W : World) (p gt go gn : Nat), BookAt W p gt go gn aw5 → Calls Try.prog 17 #[.pointer (some ⟨p, 0, none⟩), .int .i64 2] W (fun e w' => e = .returned (.int .u64 9) ∧ Below W.heap.size W w') from fun W p gt go gn h => by
  have h2 := bk_Key p gt go gn aw5 2 (by decide) (by rw [show ndR (ndOf aw5.nodes 2) = 2 from by kernel_rfl]; decide) W h
  rw [show (opC (opOf aw5.ops (ndR (ndOf aw5.nodes 2)))).f1 = 9 from by kernel_rfl] at h2
  exact h2)
 have H9 := Aside0.mk (show ∀ (W : World) (p gt go gn : Nat), BookAt W p gt go gn aw5 → Calls Try.prog 15 #[.pointer (some ⟨p, 0, none⟩), .int .i64 1] W (fun e w' => e = .returned (.int .i64 (-1)) ∧ w' = W) from fun W p gt go gn h => by
  have h2 := bk_Carried p gt go gn aw5 1 (by decide) W h
  rw [show ndR (ndOf aw5.nodes 1) = -1 from by kernel_rfl] at h2
  exact h2)
 have H10 := Aside0.mk (show ∀ (W : World) (p gt go gn : Nat), BookAt W p gt go gn aw5 → Calls Try.prog 19 #[.pointer (some ⟨p, 0, none⟩), .int .i64 1] W (fun e w' => e = .returned (.int .i64 2) ∧ w' = W) from fun W p gt go gn h => by
  have h2 := bk_Calls p gt go gn aw5 1 W h
  rw [show cnt aw5.calls 1 = 2 from by kernel_rfl] at h2
  exact h2)
 have H11 := Aside0.mk (show ∀ (W : World) (p gt go gn : Nat), BookAt W p gt go gn aw5 → Calls Try.prog 20 #[.pointer (some ⟨p, 0, none⟩), .int .i64 0] W (fun e w' => e = .returned (.int .i64 1) ∧ w' = W) from fun W p gt go gn h => by
  have h2 := bk_Made p gt go gn aw5 0 W h
  rw [show cnt aw5.made 0 = 1 from by kernel_rfl] at h2
  exact h2)
 have HN0 := Aside0.mk (show ∀ W : World, Calls Try.prog 21 #[.agg #[.int .i64 2, .int .i64 1, .int .i64 1, .int .i64 5, .int .i64 2]] W (fun r w' => ∃ p gt go gn, r = .returned (.tuple #[.pointer (some ⟨p, 0, none⟩), .int .i64 0]) ∧ BookAt w' p gt go gn aw0 ∧ Below W.heap.size W w' ∧ W.heap.size ≤ p ∧ W.heap.size ≤ gt ∧ W.heap.size ≤ go ∧ W.heap.size ≤ gn) from fun W => p_New awC awOk W)
 go_enter Try.func8, Try.ntmps8
 go_upto_region 8 with (first | (go_at_call 26; (with_reducible refine (corrielaw07_small.calls 2 1 1 5 2 _ rfl).mono ?_); rintro e w1 ⟨rfl, hbk⟩; have n_ := Aside0.mk (below_step HB.out hbk); clear HB hbk; have HB := n_; clear n_) | (go_at_call 21; (with_reducible refine (HN0.out _).mono ?_); rintro e w2 ⟨p, gt, go, gn, rfl, hA, hbk, hg1, hg2, hg3, hg4⟩; have HA := Aside0.mk (show BookAt w2 p gt go gn aw0 from hA); have HGN := Aside0.mk (show w.heap.size ≤ p ∧ w.heap.size ≤ gt ∧ w.heap.size ≤ go ∧ w.heap.size ≤ gn from by have := HB.out.size; omega); have n_ := Aside0.mk (below_step HB.out hbk); clear HB hbk hA hg1 hg2 hg3 hg4; have HB := n_; clear n_) | (go_at_call 24; (with_reducible refine (H1.out _ p gt go gn HA.out).mono ?_); rintro e w3 ⟨rfl, hA, hT⟩; have n_ := Aside0.mk hA; clear HA; have HA := n_; clear n_ hA; have n_ := Aside0.mk (HB.out.trans (hT.below HB.out.size (fun k hk => by have := HGN.out; rcases hk with rfl | rfl | rfl <;> omega))); clear HB hT; have HB := n_; clear n_) | (go_at_call 25; (with_reducible refine (H2.out _ p gt go gn HA.out).mono ?_); rintro e w4 ⟨rfl, hA, hT⟩; have n_ := Aside0.mk hA; clear HA; have HA := n_; clear n_ hA; have n_ := Aside0.mk (HB.out.trans (hT.below HB.out.size (fun k hk => by have := HGN.out; rcases hk with rfl | rfl | rfl <;> omega))); clear HB hT; have HB := n_; clear n_) | (go_at_call 24; (with_reducible refine (H3.out _ p gt go gn HA.out).mono ?_); rintro e w5 ⟨rfl, hA, hT⟩; have n_ := Aside0.mk hA; clear HA; have HA := n_; clear n_ hA; have n_ := Aside0.mk (HB.out.trans (hT.below HB.out.size (fun k hk => by have := HGN.out; rcases hk with rfl | rfl | rfl <;> omega))); clear HB hT; have HB := n_; clear n_) | (go_at_call 24; (with_reducible refine (H4.out _ p gt go gn HA.out).mono ?_); rintro e w6 ⟨rfl, hA, hT⟩; have n_ := Aside0.mk hA; clear HA; have HA := n_; clear n_ hA; have n_ := Aside0.mk (HB.out.trans (hT.below HB.out.size (fun k hk => by have := HGN.out; rcases hk with rfl | rfl | rfl <;> omega))); clear HB hT; have HB := n_; clear n_) | (go_at_call 25; (with_reducible refine (H5.out _ p gt go gn HA.out).mono ?_); rintro e w7 ⟨rfl, hA, hT⟩; have n_ := Aside0.mk hA; clear HA; have HA := n_; clear n_ hA; have n_ := Aside0.mk (HB.out.trans (hT.below HB.out.size (fun k hk => by have := HGN.out; rcases hk with rfl | rfl | rfl <;> omega))); clear HB hT; have HB := n_; clear n_) | (go_at_call 12; (with_reducible refine (H6.out _ p gt go gn HA.out).mono ?_); rintro e w8 ⟨rfl, hbk⟩; have n_HA := Aside0.mk (HA.out.below hbk); have n_ := Aside0.mk (below_step HB.out hbk); clear HB hbk HA; have HB := n_; have HA := n_HA; clear n_ n_HA) | ((with_reducible refine gate_dst (N := 13) rfl ?_); refine box_event ?hg (N := 13) ?hd (cs := #[.int .i64 0, .int .u64 0, .int .u64 0, .int .i64 0]) (t := 38) ?hr ?_; (case hd => rfl); (case hg => rfl); (case hr => first | (go_simp; done) | (go_simp; rfl)); intro g13 hg w9 hbox hbk; have B13 := Aside0.mk hbox; have HD := Aside0.mk (show p ≠ g13 ∧ gt ≠ g13 ∧ go ≠ g13 ∧ gn ≠ g13 from by have := HA.out.lt; omega); have HGB13 := Aside0.mk (show w.heap.size ≤ g13 from by rw [hg]; exact HB.out.size); have n_HA := Aside0.mk (HA.out.below hbk); have n_HB := Aside0.mk (below_step HB.out hbk); clear HA HB; have HA := n_HA; have HB := n_HB; clear n_HA n_HB; obtain ⟨c13_0, c13_1, c13_2, c13_3⟩ := blkc4 B13.out; obtain ⟨f13_0, f13_1, f13_2, f13_3⟩ := blkf4 B13.out; clear hbk hbox hg))
 obtain ⟨W9, hW9⟩ : ∃ W, ((((w9.setCell ⟨g13, 0, none⟩ (.int .i64 1)).setCell ⟨g13, 1, none⟩ (.int .u64 9)).setCell ⟨g13, 2, none⟩ (.int .u64 0)).setCell ⟨g13, 3, none⟩ (.int .i64 0)) = W := ⟨_, rfl⟩
 rw [hW9]
 have n_HA := Aside0.mk (show BookAt W9 p gt go gn aw5 from by rw [← hW9]; exact HA.out.far (grown4 _ _) HD.out)
 have n_B13 := Aside0.mk (show W9.heap[g13]? = some (.cells #[.int .i64 1, .int .u64 9, .int .u64 0, .int .i64 0] 38 (0, 0)) from by rw [← hW9]; exact put4 B13.out)
 have n_HB := Aside0.mk (show Below w.heap.size w W9 from by rw [← hW9]; exact (((HB.out.setCell (p := ⟨g13, 0, none⟩) HGB13.out _).setCell (p := ⟨g13, 1, none⟩) HGB13.out _).setCell (p := ⟨g13, 2, none⟩) HGB13.out _).setCell (p := ⟨g13, 3, none⟩) HGB13.out _)
 clear hW9 HA B13 HB
 have HA := n_HA
 have B13 := n_B13
 have HB := n_HB
 clear n_HA n_B13 n_HB
 clear c13_0 c13_1 c13_2 c13_3 f13_0 f13_1 f13_2 f13_3
 have c13_1 : W9.cell? ⟨g13, 1, none⟩ = some (.int .u64 9) := (blk_cell B13.out 1).trans rfl
 go_wp2_with (first | (go_at_call 15; (with_reducible refine (H7.out _ p gt go gn HA.out).mono ?_); rintro e wk ⟨rfl, hq⟩; have hq2 := hq.symm; subst hq2; clear hq) | (go_at_call 17; (with_reducible refine (H8.out _ p gt go gn HA.out).mono ?_); rintro e w10 ⟨rfl, hbk⟩; have n_HA := Aside0.mk (HA.out.below hbk); have n_ := Aside0.mk (below_step HB.out hbk); clear HB hbk HA; have HB := n_; have HA := n_HA; clear n_ n_HA) | (go_at_call 15; (with_reducible refine (H9.out _ p gt go gn HA.out).mono ?_); rintro e wk ⟨rfl, hq⟩; have hq2 := hq.symm; subst hq2; clear hq) | (go_at_call 19; (with_reducible refine (H10.out _ p gt go gn HA.out).mono ?_); rintro e wk ⟨rfl, hq⟩; have hq2 := hq.symm; subst hq2; clear hq) | (go_at_call 20; (with_reducible refine (H11.out _ p gt go gn HA.out).mono ?_); rintro e wk ⟨rfl, hq⟩; have hq2 := hq.symm; subst hq2; clear hq))
 go_ret
 exact ⟨by first | rfl | (simp [*]; done), HB.out⟩
theorem cnt_rep (n : Nat) (i : Int) : cnt (List.replicate n 0) i = 0 := by
 unfold cnt
 first | (split <;> simp [List.getD, List.getElem?_replicate] <;> split <;> rfl) | (simp [List.getD, List.getElem?_replicate]; done)
theorem eqA38 (d : Nat) (w : World) (x0 y0 : Int) (x1 y1 : Int) (x2 y2 : Int) (x3 y3 : Int) :
  (Op.equalIn (d + 2) 38 (.agg #[.int .i64 x0, .int .u64 x1, .int .u64 x2, .int .i64 x3]) (.agg #[.int .i64 y0, .int .u64 y1, .int .u64 y2, .int .i64 y3])).run Try.prog w = .ok (x0 == y0 && (x1 == y1 && (x2 == y2 && (x3 == y3)))) w := by
 refine eqA_of Try.underlying38 (by kernel_rfl) ?_
 refine eqf_cons (by rfl) (by go_simp; rfl) (by go_simp; rfl) (by go_simp) ?_
 refine eqf_cons (by rfl) (by go_simp; rfl) (by go_simp; rfl) (by go_simp) ?_
 refine eqf_cons (by rfl) (by go_simp; rfl) (by go_simp; rfl) (by go_simp) ?_
 exact eqf_last (by rfl) (by go_simp; rfl) (by go_simp; rfl) (by go_simp)
theorem Inv.ndwf {b : RB} (h : Inv b) (k : Int) : -1 ≤ ndR (fNd b.nodes k) ∧ ndR (fNd b.nodes k) < 2048 := by
 unfold fNd
 cases e : b.nodes.find? (fun x => x.f0 == k) with
 | none => exact ⟨by decide, by decide⟩
 | some y =>
  have hy := h.nw y (List.mem_of_find?_eq_some e)
  unfold fOp at hy
  cases e2 : b.ops.find? (fun x => x.f0 == y.f1) with
  | none => rw [e2] at hy; cases hy
  | some z =>
   have hz : z.f0 = y.f1 := by have := List.find?_some e2; simpa using this
   obtain ⟨n, i, hn, h0, h1, h2⟩ := h.ou z (List.mem_of_find?_eq_some e2)
   have hb := opNo_bnd h hn h0 (Int.lt_of_lt_of_le h1 (h.hc n hn).2)
   have h3 : ndR (Option.map (fun x => x.f1) (some y)) = y.f1 := rfl
   rw [h3, ← hz, h2]
   omega
theorem wkB {e e0 : Ending} {w w' : World} (h : e = e0 ∧ w' = w) : e = e0 ∧ Below w.heap.size w w' := ⟨h.1, by rw [h.2]; exact Below.refl _ _⟩


end Go.Proofs.Ytpcmoclohepdiaf.PBookStays
