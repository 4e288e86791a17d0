/- BoundKeeps (chapter 23): every call keeps to its bound; part 5 of the proof: words, walks by an engine, and plain lemmas, each used by the theorem. -/
import Derived.Carry
import Derived.Deep.RegionLaw
import Derived.Lib.AppendZerosOnto
import Derived.Lib.Overlaps
import Derived.Maps.OwnOps
import Derived.Maps.OwnSet
import Derived.Maps.Views
import Derived.WideKeyArgs2
import Derived.Test.YtbhakljebcmocaaK4
set_option linter.unusedVariables false
set_option linter.unusedSimpArgs false
section
namespace Go.Proofs.Ytbhakljebcmocaa.PBoundKeeps
open Go.RowKit Go.Proofs.YtbhakljebcmocaaW.PrintWords Go.Proofs.YtbhakljebcmocaaW.PrintLast Go.Proofs.YtbhakljebcmocaaW.PrintMore
set_option linter.unusedVariables false
set_option linter.unusedSimpArgs false
def nv (w : RW) (p : Int) : Int := (m08Next w p).2
def wv (w : RW) (o : Int) : Int := (m08Word w o).2
def cv (ws : List Int) (i : Int) : Int := bif decide (i < 0) then 0 else bif decide (i ≥ (ws.length : Int)) then 0 else ws.getD (Int.toNat i) 0
theorem cv_neg {ws : List Int} {i : Int} (h : i < 0) : cv ws i = 0 := by unfold cv; rw [decide_eq_true h]; rfl
theorem load_cv (ws : List Int) (st i : Int) : (m06Load (RM.mk ws st) i).2 = cv ws i := by
 unfold m06Load cv
 cases decide (i < 0) <;> cases decide (i ≥ (ws.length : Int)) <;> rfl
theorem load_ws (ws : List Int) (st i : Int) : (m06Load (RM.mk ws st) i).1.ws = ws := by
 unfold m06Load
 cases decide (i < 0) <;> cases decide (i ≥ ((RM.mk ws st).ws.length : Int)) <;> rfl
theorem nv_cv (w : RW) (p : Int) : nv w p = cv w.ws (lNext w.c p) := load_cv _ _ _
theorem wv_cv (w : RW) (o : Int) : wv w o = cv w.ws (lWord w.c o) := load_cv _ _ _
theorem cv_set {ws : List Int} {i j v : Int} : cv (ws.set (Int.toNat i) v) j = cv ws j ∨ (i.toNat = j.toNat ∧ 0 ≤ j ∧ cv (ws.set (Int.toNat i) v) j = v) := by
 unfold cv
 rw [List.length_set]
 by_cases h1 : j < 0
 ·rw [decide_eq_true h1]; exact .inl rfl
 by_cases h2 : j ≥ (ws.length : Int)
 ·rw [decide_eq_false h1, decide_eq_true h2]; exact .inl rfl
 rw [decide_eq_false h1, decide_eq_false h2]
 simp only [cond_false]
 by_cases e : i.toNat = j.toNat
 ·refine .inr ⟨e, by omega, ?_⟩
  rw [e]; exact getD_set_eq (by omega)
 ·refine .inl ?_
  rw [List.getD_eq_getElem?_getD, List.getD_eq_getElem?_getD, List.getElem?_set_ne e]
theorem store_ws (ws : List Int) (st i v : Int) : (m06Store (RM.mk ws st) i v).ws = ws ∨ (0 ≤ i ∧ i < (ws.length : Int) ∧ (m06Store (RM.mk ws st) i v).ws = ws.set (Int.toNat i) v) := by
 unfold m06Store
 by_cases h1 : i < 0
 ·rw [decide_eq_true h1]; exact .inl rfl
 by_cases h2 : i ≥ (ws.length : Int)
 ·rw [decide_eq_false h1]
  show (bif false then _ else bif decide (i ≥ (ws.length : Int)) then _ else _ : RM).ws = ws ∨ _
  rw [decide_eq_true h2]; exact .inl rfl
 refine .inr ⟨by omega, by omega, ?_⟩
 show (bif decide (i < 0) then _ else bif decide (i ≥ (ws.length : Int)) then _ else _ : RM).ws = _
 rw [decide_eq_false h1, decide_eq_false h2]
 rfl
theorem store_in {ws : List Int} {st i v : Int} (h0 : 0 ≤ i) (h1 : i < (ws.length : Int)) : (m06Store (RM.mk ws st) i v).ws = ws.set (Int.toNat i) v := by
 rcases store_ws ws st i v with h | h
 ·unfold m06Store
  show (bif decide (i < 0) then _ else bif decide (i ≥ (ws.length : Int)) then _ else _ : RM).ws = _
  rw [decide_eq_false (by omega), decide_eq_false (by omega)]
  rfl
 ·exact h.2.2
theorem swap_ws (ws : List Int) (st i o v : Int) : (m06Swap (RM.mk ws st) i o v).1.ws = ws ∨ (0 ≤ i ∧ i < (ws.length : Int) ∧ (m06Swap (RM.mk ws st) i o v).1.ws = ws.set (Int.toNat i) v) := by
 unfold m06Swap
 show (bif decide (i < 0) then _ else bif decide (i ≥ (ws.length : Int)) then _ else _ : RM × Bool).1.ws = ws ∨ (_ ∧ _ ∧ (bif decide (i < 0) then _ else bif decide (i ≥ (ws.length : Int)) then _ else _ : RM × Bool).1.ws = _)
 by_cases h1 : i < 0
 ·rw [decide_eq_true h1]; exact .inl rfl
 by_cases h2 : i ≥ (ws.length : Int)
 ·rw [decide_eq_false h1, decide_eq_true h2]; exact .inl rfl
 rw [decide_eq_false h1, decide_eq_false h2]
 simp only [cond_false]
 cases h : ((RM.mk ws st).ws.getD (Int.toNat i) 0 != o)
 ·rcases store_ws ws st i v with q | q
  ·exact .inl q
  ·exact .inr q
 ·exact .inl rfl
theorem next_ne_word {c : S23} {p o : Int} (h1 : 0 ≤ lNext c p) (h2 : 0 ≤ lWord c o) : (lNext c p).toNat ≠ (lWord c o).toNat := by
 unfold lNext at h1 ⊢
 unfold lWord at h2 ⊢
 split at h1
 ·rename_i q
  rw [if_pos q]
  split at h2
  ·rename_i q2
   rw [if_pos q2]
   omega
  ·omega
 ·omega
theorem next_ne_ann {c : S23} {p o : Int} (h1 : 0 ≤ lNext c p) (h2 : 0 ≤ lAnn c o) (hc : 0 ≤ c.f0 * c.f4) : (lNext c p).toNat ≠ (lAnn c o).toNat := by
 unfold lNext at h1 ⊢
 unfold lAnn at h2 ⊢
 split at h1
 ·rename_i q
  rw [if_pos q]
  split at h2
  ·rename_i q2
   rw [if_pos q2]
   omega
  ·omega
 ·omega
theorem word_ne_ann {c : S23} {p o : Int} (h1 : 0 ≤ lWord c p) (h2 : 0 ≤ lAnn c o) (hc : 0 ≤ c.f0 * c.f4) : (lWord c p).toNat ≠ (lAnn c o).toNat := by
 unfold lWord at h1 ⊢
 unfold lAnn at h2 ⊢
 split at h1
 ·rename_i q
  rw [if_pos q]
  split at h2
  ·rename_i q2
   rw [if_pos q2]
   have := q.1.2.1
   have := isPow_le this
   omega
  ·omega
 ·omega
theorem next_inj {c : S23} {p q : Int} (h : (lNext c p).toNat = (lNext c q).toNat) (h1 : 0 ≤ lNext c p) (h2 : 0 ≤ lNext c q) : p = q := by
 unfold lNext at h h1 h2
 split at h1
 ·rename_i a
  rw [if_pos a] at h
  split at h2
  ·rename_i a2
   rw [if_pos a2] at h
   omega
  ·omega
 ·omega
structure Sm (w v : RW) : Prop where
 c : v.c = w.c
 b : v.b = w.b
 n : ∀ p, nv v p = nv w p
 o : ∀ p, wv v p = wv w p
 l : v.ws.length = w.ws.length
theorem Sm.of_ws {w v : RW} (hc : v.c = w.c) (hb : v.b = w.b) (h : v.ws = w.ws) : Sm w v := ⟨hc, hb, fun p => by rw [nv_cv, nv_cv, h, hc], fun p => by rw [wv_cv, wv_cv, h, hc], by rw [h]⟩
theorem sm_next (w : RW) (i : Int) : Sm w (m08Next w i).1 := .of_ws rfl rfl (load_ws _ _ _)
theorem sm_word (w : RW) (i : Int) : Sm w (m08Word w i).1 := .of_ws rfl rfl (load_ws _ _ _)
theorem sm_ann (w : RW) (i : Int) : Sm w (m08Ann w i).1 := .of_ws rfl rfl (load_ws _ _ _)
structure Nx (w v : RW) (i x : Int) : Prop where
 c : v.c = w.c
 b : v.b = w.b
 n : ∀ p, nv v p = nv w p ∨ (p = i ∧ nv v p = x)
 o : ∀ p, wv v p = wv w p
 l : v.ws.length = w.ws.length
theorem Nx.of {w v : RW} {i x : Int} (hc : v.c = w.c) (hb : v.b = w.b) (h : v.ws = w.ws ∨ (0 ≤ lNext w.c i ∧ lNext w.c i < (w.ws.length : Int) ∧ v.ws = w.ws.set (lNext w.c i).toNat x)) : Nx w v i x := by
 rcases h with h | ⟨h0, h1, h⟩
 ·have := Sm.of_ws hc hb h
  exact ⟨hc, hb, fun p => .inl (this.n p), this.o, this.l⟩
 ·refine ⟨hc, hb, fun p => ?_, fun p => ?_, by rw [h, List.length_set]⟩
  ·rw [nv_cv, nv_cv, h, hc]
   rcases cv_set (ws := w.ws) (i := lNext w.c i) (j := lNext w.c p) (v := x) with e | ⟨e1, e2, e3⟩
   ·exact .inl e
   ·exact .inr ⟨(next_inj e1 h0 e2).symm, e3⟩
  ·rw [wv_cv, wv_cv, h, hc]
   rcases cv_set (ws := w.ws) (i := lNext w.c i) (j := lWord w.c p) (v := x) with e | ⟨e1, e2, e3⟩
   ·exact e
   ·exact absurd e1 (next_ne_word h0 e2)
theorem nx_set (w : RW) (i x : Int) : Nx w (m08Set w i x) i x := .of rfl rfl (store_ws _ _ _ _)
theorem nx_link (w : RW) (i o x : Int) : Nx w (m08Link w i o x).1 i x := .of rfl rfl (swap_ws _ _ _ _ _)
theorem set_in {w : RW} {i x : Int} (h0 : 0 ≤ lNext w.c i) (h1 : lNext w.c i < (w.ws.length : Int)) : nv (m08Set w i x) i = x := by
 rw [nv_cv]
 show cv (m06Store (RM.mk w.ws w.st) (lNext w.c i) x).ws (lNext w.c i) = x
 rw [store_in h0 h1]
 unfold cv
 rw [List.length_set, decide_eq_false (by omega), decide_eq_false (by omega)]
 exact getD_set_eq (by omega)
structure Wx (w v : RW) (x : Int) : Prop where
 c : v.c = w.c
 b : v.b = w.b
 n : ∀ p, nv v p = nv w p
 o : ∀ p, wv v p = wv w p ∨ wv v p = x
 l : v.ws.length = w.ws.length
theorem wx_turn (w : RW) (i o x : Int) : Wx w (m08Turn w i o x).1 x := by
 have h := swap_ws w.ws w.st (lWord w.c i) o x
 have e : (m08Turn w i o x).1.ws = (m06Swap (RM.mk w.ws w.st) (lWord w.c i) o x).1.ws := rfl
 rw [← e] at h
 rcases h with h | ⟨h0, h1, h⟩
 ·have := Sm.of_ws (w := w) (v := (m08Turn w i o x).1) rfl rfl h
  exact ⟨rfl, rfl, this.n, fun p => .inl (this.o p), this.l⟩
 ·refine ⟨rfl, rfl, fun p => ?_, fun p => ?_, by rw [h, List.length_set]⟩
  ·rw [nv_cv, nv_cv, h]
   rcases cv_set (ws := w.ws) (i := lWord w.c i) (j := lNext w.c p) (v := x) with e | ⟨e1, e2, e3⟩
   ·exact e
   ·exact absurd e1.symm (next_ne_word e2 h0)
  ·rw [wv_cv, wv_cv, h]
   rcases cv_set (ws := w.ws) (i := lWord w.c i) (j := lWord w.c p) (v := x) with e | ⟨e1, e2, e3⟩
   ·exact .inl e
   ·exact .inr e3
theorem say_nw (w : RW) (i x : Int) (hc : 0 ≤ w.c.f0 * w.c.f4) : (∀ p, nv (m08Say w i x) p = nv w p) ∧ (∀ p, wv (m08Say w i x) p = wv w p) ∧ (m08Say w i x).ws.length = w.ws.length := by
 have h := store_ws w.ws w.st (lAnn w.c i) (IntKind.u64.wrap (IntKind.i64.wrap (x + 1)))
 have e : (m08Say w i x).ws = (m06Store (RM.mk w.ws w.st) (lAnn w.c i) (IntKind.u64.wrap (IntKind.i64.wrap (x + 1)))).ws := rfl
 rw [← e] at h
 rcases h with h | ⟨h0, h1, h⟩
 ·have := Sm.of_ws (w := w) (v := m08Say w i x) rfl rfl h
  exact ⟨this.n, this.o, this.l⟩
 ·refine ⟨fun p => ?_, fun p => ?_, by rw [h, List.length_set]⟩
  ·rw [nv_cv, nv_cv, h]
   rcases cv_set (ws := w.ws) (i := lAnn w.c i) (j := lNext w.c p) (v := (IntKind.u64.wrap (IntKind.i64.wrap (x + 1)))) with e | ⟨e1, e2, e3⟩
   ·exact e
   ·exact absurd e1.symm (next_ne_ann e2 h0 hc)
  ·rw [wv_cv, wv_cv, h]
   rcases cv_set (ws := w.ws) (i := lAnn w.c i) (j := lWord w.c p) (v := (IntKind.u64.wrap (IntKind.i64.wrap (x + 1)))) with e | ⟨e1, e2, e3⟩
   ·exact e
   ·exact absurd e1.symm (word_ne_ann e2 h0 hc)
end Go.Proofs.Ytbhakljebcmocaa.PBoundKeeps
end
section
namespace Go.Proofs.Ytbhakljebcmocaa.PBoundKeeps
open Go.RowKit Go.Proofs.YtbhakljebcmocaaW.PrintWords Go.Proofs.YtbhakljebcmocaaW.PrintLast Go.Proofs.YtbhakljebcmocaaW.PrintMore
set_option linter.unusedVariables false
set_option linter.unusedSimpArgs false
structure Tb1 (b : RB) : Prop where
 i : Inv b
 t : b.c.f0 = 1
 u : b.c.f1 = 1
 f : b.c.f4 ≤ 8
def NdM (b : RB) (n : Int) : Prop := (fNd b.nodes n).isSome = true
theorem md_iff {b : RB} {n : Int} : NdM b n ↔ ∃ x, x ∈ b.nodes ∧ x.f0 = n := by
 unfold NdM fNd
 rw [Option.isSome_map, List.find?_isSome]
 constructor
 ·rintro ⟨x, hx, h⟩; exact ⟨x, hx, by simpa using h⟩
 ·rintro ⟨x, hx, h⟩; exact ⟨x, hx, by simpa using h⟩
theorem Tb1.calls {b : RB} (h : Tb1 b) : b.calls.length = 1 := by have := h.i.lc; have := h.t; omega
theorem Tb1.no {b : RB} (h : Tb1 b) {x : S125} (hx : x ∈ b.nodes) : 2 ≤ x.f0 ∧ x.f0 < 2 + b.made.getD 0 0 := by
 obtain ⟨n, i, h1, h2, h3, h4⟩ := h.i.nu x hx
 have := h.calls
 obtain rfl : n = 0 := by omega
 rw [h4]
 unfold ndNo
 have := h.u
 simp only [Int.ofNat_zero, Int.natCast_zero, Int.zero_mul]
 omega
theorem Tb1.made {b : RB} (h : Tb1 b) : 0 ≤ b.made.getD 0 0 ∧ b.made.getD 0 0 ≤ 16 := by
 have := h.i.hm 0 (by have := h.calls; omega)
 have := h.f
 omega
theorem Tb1.md {b : RB} (h : Tb1 b) {n : Int} (hn : NdM b n) : 2 ≤ n ∧ n < 2 + b.made.getD 0 0 ∧ n ≤ 17 := by
 obtain ⟨x, hx, rfl⟩ := md_iff.mp hn
 have := h.no hx
 have := h.made
 omega
theorem Tb1.len {b : RB} (h : Tb1 b) : b.nodes.length ≤ 16 := by
 have h1 := h.i.nn
 have h2 : b.made.length = 1 := by rw [h.i.lm]; exact h.calls
 have h3 := h.made
 obtain ⟨m, hm⟩ := List.length_eq_one_iff.mp h2
 rw [hm] at h1 h3
 simp only [sm, List.getD_cons_zero] at h1 h3
 omega
def ltN (b : RB) (a y : Int) : Prop := keyF b a < keyF b y ∨ (keyF b a = keyF b y ∧ a < y)
instance (b : RB) (a y : Int) : Decidable (ltN b a y) := by unfold ltN; infer_instance
theorem lt_trans' {b : RB} {x y z : Int} (h : ltN b x y) (k : ltN b y z) : ltN b x z := by unfold ltN at *; omega
theorem lt_irr {b : RB} {x : Int} (h : ltN b x x) : False := by unfold ltN at h; omega
def cnt (b : RB) (n : Int) : Nat := b.nodes.countP (fun z => decide (z.f0 = n ∨ ltN b n z.f0))
theorem countP_lt {α : Type} {p q : α → Bool} : ∀ {l : List α}, (∀ z, z ∈ l → p z = true → q z = true) → ∀ x, x ∈ l → p x = false → q x = true → l.countP p < l.countP q
 | [], _, x, hx, _, _ => by cases hx
 | y :: r, h, x, hx, hp, hq => by
  rw [List.countP_cons, List.countP_cons]
  have hle : r.countP p ≤ r.countP q := List.countP_mono_left (fun z hz => h z (List.mem_cons_of_mem _ hz))
  rcases List.mem_cons.mp hx with rfl | hx'
  ·rw [hp, hq]; simp; omega
  ·have ih := countP_lt (fun z hz => h z (List.mem_cons_of_mem _ hz)) x hx' hp hq
   have hy := h y (List.mem_cons_self ..)
   cases e : p y
   ·cases q y <;> simp <;> omega
   ·rw [hy e]; simp; omega
theorem cnt_lt {b : RB} {n y : Int} (hn : NdM b n) (h : ltN b n y) : cnt b y < cnt b n := by
 obtain ⟨x, hx, e⟩ := md_iff.mp hn
 refine countP_lt (fun z _ hz => ?_) x hx ?_ ?_
 ·have hz' := of_decide_eq_true hz
  refine decide_eq_true ?_
  rcases hz' with e | e
  ·exact .inr (e ▸ h)
  ·exact .inr (lt_trans' h e)
 ·refine decide_eq_false ?_
  rintro (e2 | e2)
  ·rw [← e2, e] at h; exact lt_irr h
  ·rw [e] at e2; exact lt_irr (lt_trans' h e2)
 ·exact decide_eq_true (.inl e)
theorem cnt_le (b : RB) (n : Int) : cnt b n ≤ b.nodes.length := List.countP_le_length
theorem cnt_pos {b : RB} {n : Int} (hn : NdM b n) : 1 ≤ cnt b n := by
 obtain ⟨x, hx, e⟩ := md_iff.mp hn
 exact List.countP_pos_iff.mpr ⟨x, hx, decide_eq_true (.inl e)⟩
def Rf (v y : Int) : Prop := v = 2 * y ∨ v = 2 * y + 1
theorem u64s {n : Int} (h0 : 0 ≤ n) (h1 : n ≤ 18446744073709551615) : IntKind.u64.wrap n = n := by
 show (if (false && decide (n % 2 ^ 64 ≥ 2 ^ 63)) = true then n % 2 ^ 64 - 2 ^ 64 else n % 2 ^ 64) = n
 rw [Bool.false_and]
 rw [if_neg (by decide)]
 omega
theorem pIndex_rf {v y : Int} (h0 : 0 ≤ y) (h1 : y ≤ 1000000) (h : Rf v y) : pIndex v = y := by
 unfold pIndex
 have e : Int.tdiv v 2 = y := by
  rcases h with rfl | rfl
  ·rw [Int.tdiv_eq_ediv_of_nonneg (by omega)]; omega
  ·rw [Int.tdiv_eq_ediv_of_nonneg (by omega)]; omega
 rw [e, u64s h0 (by omega), wrap64_eq (by omega) (by omega)]
theorem mark_rf {v y : Int} (h0 : 0 ≤ y) (h1 : y ≤ 1000000) (h : Rf v y) : Rf (pMark v) y := by
 unfold pMark
 split
 ·rename_i hm
  rw [u64s (by rcases h with rfl | rfl <;> omega) (by rcases h with rfl | rfl <;> omega)]
  rcases h with rfl | rfl
  ·exact .inr rfl
  ·rw [Int.tmod_eq_emod_of_nonneg (by omega)] at hm
   omega
 ·exact h
theorem pack_rf {y : Int} (h0 : 0 ≤ y) (h1 : y ≤ 1000000) : Rf (pPack y false) y := by
 unfold pPack
 rw [if_neg (by omega), if_neg (by decide), u64s h0 (by omega), u64s (by omega) (by omega)]
 exact .inl rfl
def NxOk (b : RB) (n v : Int) : Prop := ∃ y, Rf v y ∧ (y = 0 ∨ (NdM b y ∧ ltN b n y))
structure Jm (w : RW) : Prop where
 t : Tb1 w.b
 c : w.b.c = w.c
 l : (w.ws.length : Int) = lLen w.c
 n : ∀ p, NdM w.b p → NxOk w.b p (nv w p)
 h : ∃ y, Rf (nv w 1) y ∧ (y = 0 ∨ NdM w.b y)
theorem NxOk.ix {b : RB} (ht : Tb1 b) {n v : Int} (h : NxOk b n v) : Rf v (pIndex v) ∧ (pIndex v = 0 ∨ (NdM b (pIndex v) ∧ ltN b n (pIndex v))) := by
 obtain ⟨y, h1, h2⟩ := h
 have e : pIndex v = y := by
  rcases h2 with rfl | h2
  ·exact pIndex_rf (by decide) (by decide) h1
  ·have := ht.md h2.1; exact pIndex_rf (by omega) (by omega) h1
 rw [e]
 exact ⟨h1, h2⟩
theorem NxOk.mk {b : RB} (ht : Tb1 b) {n y : Int} (h : y = 0 ∨ (NdM b y ∧ ltN b n y)) : NxOk b n (pPack y false) := by
 refine ⟨y, ?_, h⟩
 rcases h with rfl | h
 ·exact pack_rf (by decide) (by decide)
 ·have := ht.md h.1; exact pack_rf (by omega) (by omega)
theorem NxOk.mark {b : RB} (ht : Tb1 b) {n v : Int} (h : NxOk b n v) : NxOk b n (pMark v) := by
 obtain ⟨y, h1, h2⟩ := h
 refine ⟨y, ?_, h2⟩
 rcases h2 with rfl | h2
 ·exact mark_rf (by decide) (by decide) h1
 ·have := ht.md h2.1; exact mark_rf (by omega) (by omega) h1
theorem Jm.ix {w : RW} (h : Jm w) : pIndex (nv w 1) = 0 ∨ NdM w.b (pIndex (nv w 1)) := by
 obtain ⟨y, h1, h2⟩ := h.h
 have e : pIndex (nv w 1) = y := by
  rcases h2 with rfl | h2
  ·exact pIndex_rf (by decide) (by decide) h1
  ·have := h.t.md h2; exact pIndex_rf (by omega) (by omega) h1
 rw [e]; exact h2
theorem nv_neg (w : RW) : nv w (-1) = 0 := by
 rw [nv_cv]
 have : lNext w.c (-1) = -1 := by unfold lNext; rw [if_neg (by omega)]
 rw [this]; exact cv_neg (by decide)
theorem Jm.lnx {w : RW} (h : Jm w) {n : Int} (h0 : 0 ≤ n) (h1 : n < 2 + 2 * w.b.c.f4) : 0 ≤ lNext w.c n ∧ lNext w.c n < (w.ws.length : Int) := by
 have hk : OkC w.c := by rw [← h.c]; exact h.t.i.ok
 have t := h.t.t; have u := h.t.u
 have e1 : w.c.f0 = 1 := by rw [← h.c]; exact t
 have e2 : w.c.f1 = 1 := by rw [← h.c]; exact u
 have e4 : w.c.f4 = w.b.c.f4 := by rw [h.c]
 rw [h.l]
 unfold lNext lLen
 have h4 := hk.2.2.2.2
 rw [if_pos ⟨hk, h0, by rw [e1, e2]; omega⟩, if_pos hk, e1, e2]
 omega
theorem Jm.sm {w v : RW} (h : Jm w) (hs : Sm w v) : Jm v :=
 ⟨hs.b ▸ h.t, by rw [hs.b, hs.c]; exact h.c, by rw [hs.l, hs.c]; exact h.l, fun p hp => by rw [hs.b] at hp ⊢; rw [hs.n]; exact h.n p hp, by rw [hs.n, hs.b]; exact h.h⟩
theorem Jm.wx {w v : RW} {x : Int} (h : Jm w) (hs : Wx w v x) : Jm v :=
 ⟨hs.b ▸ h.t, by rw [hs.b, hs.c]; exact h.c, by rw [hs.l, hs.c]; exact h.l, fun p hp => by rw [hs.b] at hp ⊢; rw [hs.n]; exact h.n p hp, by rw [hs.n, hs.b]; exact h.h⟩
theorem Jm.nx {w v : RW} {i x : Int} (h : Jm w) (hs : Nx w v i x) (h1 : NdM w.b i → NxOk w.b i x) (h2 : i = 1 → ∃ y, Rf x y ∧ (y = 0 ∨ NdM w.b y)) : Jm v := by
 refine ⟨hs.b ▸ h.t, by rw [hs.b, hs.c]; exact h.c, by rw [hs.l, hs.c]; exact h.l, fun p hp => ?_, ?_⟩
 ·rw [hs.b] at hp ⊢
  rcases hs.n p with e | ⟨e1, e2⟩
  ·rw [e]; exact h.n p hp
  ·rw [e2, e1]; exact h1 (e1 ▸ hp)
 ·rw [hs.b]
  rcases hs.n 1 with e | ⟨e1, e2⟩
  ·rw [e]; exact h.h
  ·rw [e2]; exact h2 e1.symm
structure Gr (b b' : RB) : Prop where
 c : b'.c = b.c
 n : ∀ n, NdM b n → fNd b'.nodes n = fNd b.nodes n
 o : ∀ o, (fOp b.ops o).isSome = true → fOp b'.ops o = fOp b.ops o
theorem Gr.rfl' (b : RB) : Gr b b := ⟨rfl, fun _ _ => rfl, fun _ _ => rfl⟩
theorem Gr.md {b b' : RB} (h : Gr b b') {n : Int} (hn : NdM b n) : NdM b' n := by unfold NdM; rw [h.n n hn]; exact hn
theorem Gr.car {b b' : RB} (h : Gr b b') {n : Int} (hn : NdM b n) : carF b' n = carF b n := by unfold carF; rw [h.n n hn]
theorem car_some {b : RB} (hi : Inv b) {n : Int} (hn : NdM b n) : (fOp b.ops (carF b n)).isSome = true := by
 unfold NdM fNd at hn
 unfold carF fNd
 cases e : b.nodes.find? (fun x => x.f0 == n) with
 | none => rw [e] at hn; cases hn
 | some x => exact hi.nw x (List.mem_of_find?_eq_some e)
theorem keyF_car (b : RB) (n : Int) : keyF b n = (callF b (carF b n)).f1 := rfl
theorem Gr.call {b b' : RB} (h : Gr b b') {o : Int} (ho : (fOp b.ops o).isSome = true) : callF b' o = callF b o := by unfold callF; rw [h.o o ho]
theorem Gr.key {b b' : RB} (h : Gr b b') (hi : Inv b) {n : Int} (hn : NdM b n) : keyF b' n = keyF b n := by rw [keyF_car, keyF_car, h.car hn, h.call (car_some hi hn)]
theorem Gr.lt {b b' : RB} (h : Gr b b') (hi : Inv b) {n y : Int} (hn : NdM b n) (hy : NdM b y) (hl : ltN b n y) : ltN b' n y := by
 unfold ltN at *
 rw [h.key hi hn, h.key hi hy]
 exact hl
theorem Gr.nxok {b b' : RB} (h : Gr b b') (hi : Inv b) {n v : Int} (hn : NdM b n) (hx : NxOk b n v) : NxOk b' n v := by
 obtain ⟨y, h1, h2⟩ := hx
 exact ⟨y, h1, h2.imp id (fun q => ⟨h.md q.1, h.lt hi hn q.1 q.2⟩)⟩
theorem fNd_app (l : List S125) (y : S125) (k : Int) (h : (fNd l k).isSome = true) : fNd (l ++ [y]) k = fNd l k := by
 unfold fNd at *
 rw [List.find?_append]
 cases e : l.find? (fun x => x.f0 == k) with
 | none => rw [e] at h; cases h
 | some x => rfl
theorem gr_beg (b : RB) (n : Int) (x : S48) : Gr b (begR b n x).1 := by
 unfold begR
 split
 ·repeat' split
  all_goals first | exact .rfl' b | exact ⟨rfl, fun _ _ => rfl, fun _ _ => rfl⟩ | exact ⟨rfl, fun _ _ => rfl, fun o ho => fOp_snoc _ _ _ ho⟩
 ·exact .rfl' b
end Go.Proofs.Ytbhakljebcmocaa.PBoundKeeps
end
section
namespace Go.Proofs.Ytbhakljebcmocaa.PBoundKeeps
open Go.RowKit Go.Proofs.YtbhakljebcmocaaW.PrintWords Go.Proofs.YtbhakljebcmocaaW.PrintLast Go.Proofs.YtbhakljebcmocaaW.PrintMore
set_option linter.unusedVariables false
set_option linter.unusedSimpArgs false
def Pd (b : RB) (p n : Int) : Prop := p = 1 ∨ p = -1 ∨ (NdM b p ∧ ltN b p n)
def Pk (b : RB) (p k : Int) : Prop := p = 1 ∨ p = -1 ∨ (NdM b p ∧ keyF b p ≤ k)
structure WA (b : RB) (x : WalkR) : Prop where
 k : Pk b x.pred x.key
 c : x.curr = 0 ∨ (NdM b x.curr ∧ Pd b x.pred x.curr)
structure WI (b : RB) (x : WalkR) : Prop where
 p0 : 0 ≤ x.phase
 p7 : x.phase ≤ 7
 a : x.done = false → x.phase ≠ 0 → WA b x ∧ x.curr ≠ 0 ∧ keyF b x.curr ≤ x.key ∧ (2 ≤ x.phase → NxOk b x.curr x.next)
 d : x.done = true → x.mode = 1 → WA b x ∧ (x.curr = 0 ∨ x.key < keyF b x.curr)
structure Own (b : RB) (x : WalkR) (o n : Int) : Prop where
 mo : x.mode = 1
 nd : NdM b n
 ca : carF b n = o
 ke : keyF b n = x.key
def Wn (w : RW) (x : WalkR) (o n : Int) : Prop := wv w o = 0 → (x.phase ≠ 0 ∨ x.done = true) → x.pred ≠ n
structure WS (w : RW) (x : WalkR) (r : RW × WalkR) : Prop where
 j : Jm r.1
 wi : WI w.b r.2
 bk : r.1.b = w.b
 ke : r.2.key = x.key
 mo : r.2.mode = x.mode
 ow : ∀ o n, Own w.b x o n → Wn w x o n → Wn r.1 r.2 o n
theorem arr {w : RW} {x : WalkR} (h : WA w.b x) (h0 : 0 ≤ x.phase) (h7 : x.phase ≤ 7) (hd : x.done = false) : WI w.b (m10Arrive w x) ∧ (m10Arrive w x).pred = x.pred ∧ (m10Arrive w x).key = x.key ∧ (m10Arrive w x).mode = x.mode := by
 unfold m10Arrive
 by_cases h1 : x.curr = 0
 ·rw [show (x.curr == 0) = true by rw [h1]; rfl]
  exact ⟨⟨h0, h7, fun q => (by cases q), fun _ _ => ⟨⟨h.k, h.c⟩, .inl h1⟩⟩, rfl, rfl, rfl⟩
 rw [show (x.curr == 0) = false by simpa using h1]
 by_cases h2 : keyF w.b x.curr > x.key
 ·rw [decide_eq_true h2]
  exact ⟨⟨h0, h7, fun q => (by cases q), fun _ _ => ⟨⟨h.k, h.c⟩, .inr h2⟩⟩, rfl, rfl, rfl⟩
 rw [decide_eq_false h2]
 refine ⟨⟨(by decide : (0 : Int) ≤ 1), (by decide : (1 : Int) ≤ 7), fun _ _ => ⟨⟨h.k, h.c⟩, h1, Int.not_lt.mp h2, fun q => absurd q (by decide : ¬ (2 : Int) ≤ 1)⟩, fun q => ?_⟩, rfl, rfl, rfl⟩
 exact absurd (hd.symm.trans q) (by decide)
theorem head1 {w : RW} (h : Jm w) (k : Int) : m08Head w k = 1 ∨ m08Head w k = -1 := by
 unfold m08Head lHead
 split
 ·rename_i q
  have := h.t.u
  rw [h.c] at this
  omega
 ·exact .inr rfl
theorem nd_ne {b : RB} (h : Tb1 b) {n : Int} (hn : NdM b n) : n ≠ 1 ∧ n ≠ -1 ∧ n ≠ 0 ∧ 2 ≤ n := by have := h.md hn; omega
theorem pd_nd {b : RB} (h : Tb1 b) {p n : Int} (hp : NdM b p) (h1 : Pd b p n) : ltN b p n := by
 have := nd_ne h hp
 rcases h1 with e | e | e
 ·omega
 ·omega
 ·exact e.2
section
variable {w : RW} {x : WalkR}
theorem ws0 (hJ : Jm w) (hd : x.done = false) (hp : x.phase = 0) : WS w x (m10Look w x) := by
 have e : m10Look w x = ((m08Next w (m08Head w x.key)).1, (m10Arrive ((m08Next w (m08Head w x.key)).1) ⟨x.key, x.mode, x.phase, (m08Head w x.key), (pIndex (nv w (m08Head w x.key))), x.next, (-1), x.found, x.stop, x.done⟩)) := by
  unfold m10Look; rw [hp]; rfl
 rw [e]
 have hs := sm_next w (m08Head w x.key)
 have hc : pIndex (nv w (m08Head w x.key)) = 0 ∨ (NdM w.b (pIndex (nv w (m08Head w x.key))) ∧ Pd w.b (m08Head w x.key) (pIndex (nv w (m08Head w x.key)))) := by
  rcases head1 hJ x.key with e | e
  ·rw [e]
   exact hJ.ix.imp id (fun q => ⟨q, .inl rfl⟩)
  ·rw [e, nv_neg]; exact .inl (pIndex_rf (by decide) (by decide) (.inl rfl))
 have hk : Pk w.b (m08Head w x.key) x.key := (head1 hJ x.key).imp id (fun q => .inl q)
 obtain ⟨q1, q2, q3, q4⟩ := arr (w := (m08Next w (m08Head w x.key)).1) (x := ⟨x.key, x.mode, x.phase, (m08Head w x.key), (pIndex (nv w (m08Head w x.key))), x.next, (-1), x.found, x.stop, x.done⟩) ⟨hk, hc⟩ (by rw [hp]; decide) (by rw [hp]; decide) hd
 refine ⟨hJ.sm hs, q1, rfl, q3, q4, fun o n ho _ _ _ => ?_⟩
 rw [q2]
 have := nd_ne hJ.t ho.nd
 rcases head1 hJ x.key with e | e
 ·show m08Head w x.key ≠ n
  omega
 ·show m08Head w x.key ≠ n
  omega
theorem ws1 (hJ : Jm w) (hW : WI w.b x) (hd : x.done = false) (hp : x.phase = 1) : WS w x (m10Look w x) := by
 obtain ⟨a1, a2, a3, _⟩ := hW.a hd (by omega)
 have hn : NdM w.b x.curr := (a1.c.resolve_left a2).1
 have hs := sm_next w x.curr
 have key : ∀ f : Int, f = 2 ∨ f = 3 → WS w x ((m08Next w x.curr).1, ⟨x.key, x.mode, f, x.pred, x.curr, nv w x.curr, x.seen, x.found, x.stop, x.done⟩) := fun f hf => by
  refine ⟨hJ.sm hs, ⟨by show 0 ≤ f; omega, by show f ≤ 7; omega, fun _ _ => ⟨⟨a1.k, a1.c⟩, a2, a3, fun _ => hJ.n _ hn⟩, fun q => absurd (hd.symm.trans q) (by decide)⟩, rfl, rfl, rfl, fun o n ho hw h1 h2 => ?_⟩
  exact hw (by rw [← hs.o]; exact h1) (.inl (by omega))
 unfold m10Look
 rw [hp]
 show WS w x (bif pMarked _ then _ else _)
 cases pMarked ((m08Next w x.curr).2)
 ·exact key 3 (.inr rfl)
 ·exact key 2 (.inl rfl)
theorem adv {v : RW} {y : WalkR} (hb : v.b = w.b) (hJ : Jm v) (hn : NdM w.b y.curr) (hk : keyF w.b y.curr ≤ y.key) (hx : NxOk w.b y.curr y.next) (h0 : 0 ≤ y.phase) (h7 : y.phase ≤ 7) (hd : y.done = false) : WI w.b (m10Advance v y) ∧ (m10Advance v y).pred = y.curr ∧ (m10Advance v y).key = y.key ∧ (m10Advance v y).mode = y.mode := by
 unfold m10Advance
 have ht : Tb1 w.b := hb ▸ hJ.t
 have hq := hx.ix ht
 have := arr (w := v) (x := ⟨y.key, y.mode, y.phase, y.curr, (pIndex y.next), y.next, y.seen, y.found, y.stop, y.done⟩) (by rw [hb]; exact ⟨.inr (.inr ⟨hn, hk⟩), hq.2.imp id (fun q => ⟨q.1, .inr (.inr ⟨hn, q.2⟩)⟩)⟩) h0 h7 hd
 rw [hb] at this
 exact this
theorem ws3 (hJ : Jm w) (hW : WI w.b x) (hd : x.done = false) (hp : x.phase = 3) : WS w x (m10Look w x) := by
 obtain ⟨a1, a2, a3, a4⟩ := hW.a hd (by omega)
 have hn : NdM w.b x.curr := (a1.c.resolve_left a2).1
 have hx := a4 (by omega)
 have hs := sm_word w (carF w.b x.curr)
 have e : m10Look w x = ((m08Word w (carF w.b x.curr)).1, m10Judge ((m08Word w (carF w.b x.curr)).1) x (wv w (carF w.b x.curr))) := by
  unfold m10Look; rw [hp]; rfl
 rw [e]
 have hJ' := hJ.sm hs
 have hstay : ∀ (f s g : Int), 4 ≤ f ∧ f ≤ 7 → WS w x ((m08Word w (carF w.b x.curr)).1, ⟨x.key, x.mode, f, x.pred, x.curr, x.next, s, g, x.stop, x.done⟩) := fun f s g hf => by
  refine ⟨hJ', ⟨by show 0 ≤ f; omega, by show f ≤ 7; omega, fun _ _ => ⟨⟨a1.k, a1.c⟩, a2, a3, fun _ => hx⟩, fun q => absurd (hd.symm.trans q) (by decide)⟩, rfl, rfl, rfl, fun o n ho hw h1 h2 => ?_⟩
  exact hw (by rw [← hs.o]; exact h1) (.inl (by omega))
 have hadv : ∀ s : Int, (∀ o n, Own w.b x o n → wv w o = 0 → x.curr ≠ n) → WS w x ((m08Word w (carF w.b x.curr)).1, m10Advance ((m08Word w (carF w.b x.curr)).1) ⟨x.key, x.mode, x.phase, x.pred, x.curr, x.next, s, x.found, x.stop, x.done⟩) := fun s hs' => by
  obtain ⟨q1, q2, q3, q4⟩ := adv (w := w) (v := (m08Word w (carF w.b x.curr)).1) (y := ⟨x.key, x.mode, x.phase, x.pred, x.curr, x.next, s, x.found, x.stop, x.done⟩) rfl hJ' hn a3 hx (by show 0 ≤ x.phase; omega) (by show x.phase ≤ 7; omega) hd
  refine ⟨hJ', q1, rfl, q3, q4, fun o n ho hw h1 h2 => ?_⟩
  rw [q2]
  exact hs' o n ho (by rw [← hs.o]; exact h1)
 have hadv' : (∀ o n, Own w.b x o n → wv w o = 0 → x.curr ≠ n) → WS w x ((m08Word w (carF w.b x.curr)).1, m10Advance ((m08Word w (carF w.b x.curr)).1) x) := fun h => hadv x.seen h
 unfold m10Judge
 show WS w x (_, bif pOver _ then _ else _)
 cases h1 : pOver (wv w (carF w.b x.curr))
 ·by_cases h2 : keyF w.b x.curr = x.key
  ·have e2 : (keyF ((m08Word w (carF w.b x.curr)).1).b x.curr != x.key) = false := by show (!(keyF w.b x.curr == x.key)) = false; rw [h2]; simp
   rw [e2]
   by_cases h3 : x.mode = 2
   ·rw [show (x.mode == 2) = true by rw [h3]; rfl]
    have hdone : ∀ g : Int, WS w x ((m08Word w (carF w.b x.curr)).1, ⟨x.key, x.mode, x.phase, x.pred, x.curr, x.next, x.seen, g, true, true⟩) := fun g => by
     refine ⟨hJ', ⟨hW.p0, hW.p7, fun q => (by cases q), fun _ q => ?_⟩, rfl, rfl, rfl, fun o n ho hw h1 h2 => ?_⟩
     ·exact absurd (h3.symm.trans q) (by decide)
     ·exact absurd (h3.symm.trans ho.mo) (by decide)
    show WS w x (_, bif (_ == 1) then _ else _)
    cases (wv w (carF w.b x.curr) == 1) <;> exact hdone _
   ·rw [show (x.mode == 2) = false by simpa using h3]
    by_cases h4 : x.mode = 1
    ·rw [show (x.mode != 1) = false by rw [h4]; rfl]
     show WS w x (_, bif (_ == 1) then _ else _)
     by_cases h5 : wv w (carF w.b x.curr) = 1
     ·rw [show (wv w (carF w.b x.curr) == 1) = true by rw [h5]; rfl]
      show WS w x (_, bif (_ == _) then _ else _)
      cases (x.seen == carF ((m08Word w (carF w.b x.curr)).1).b x.curr)
      ·refine hadv _ (fun o n ho h6 e => ?_)
       rw [e, ho.ca, h6] at h5
       exact absurd h5 (by decide)
      ·exact hstay 4 _ _ (by decide)
     ·rw [show (wv w (carF w.b x.curr) == 1) = false by simpa using h5]
      show WS w x (_, bif (_ != _) then _ else _)
      cases (x.seen != (-1))
      ·exact hstay 6 _ _ (by decide)
      ·exact hstay 5 _ _ (by decide)
    ·rw [show (x.mode != 1) = true by simpa using h4]
     exact hadv' (fun o n ho _ _ => h4 ho.mo)
  ·have e2 : (keyF ((m08Word w (carF w.b x.curr)).1).b x.curr != x.key) = true := by show (!(keyF w.b x.curr == x.key)) = true; simpa using h2
   rw [e2]
   exact hadv' (fun o n ho _ e => h2 (e ▸ ho.ke))
 ·exact hstay 4 _ _ (by decide)
theorem ws2 (hJ : Jm w) (hW : WI w.b x) (hd : x.done = false) (hp : x.phase = 2) : WS w x (m10Unlink w x) := by
 obtain ⟨a1, a2, a3, a4⟩ := hW.a hd (by omega)
 have hc := a1.c.resolve_left a2
 have hq := (a4 (by omega)).ix hJ.t
 have hs := nx_link w x.pred (pPack x.curr false) (pPack (pIndex x.next) false)
 have hp2 : pIndex x.next = 0 ∨ (NdM w.b (pIndex x.next) ∧ Pd w.b x.pred (pIndex x.next)) := by
  rcases hq.2 with e | e
  ·exact .inl e
  ·refine .inr ⟨e.1, ?_⟩
   rcases hc.2 with q | q | q
   ·exact .inl q
   ·exact .inr (.inl q)
   ·exact .inr (.inr ⟨q.1, lt_trans' q.2 e.2⟩)
 have hJ' : Jm (m08Link w x.pred (pPack x.curr false) (pPack (pIndex x.next) false)).1 := by
  refine hJ.nx hs (fun hm => ?_) (fun _ => ?_)
  ·refine NxOk.mk hJ.t (hp2.imp id (fun q => ⟨q.1, pd_nd hJ.t hm q.2⟩))
  ·refine ⟨pIndex x.next, ?_, hp2.imp id (fun q => q.1)⟩
   rcases hp2 with e | e
   ·rw [e]; exact pack_rf (by decide) (by decide)
   ·have := hJ.t.md e.1; exact pack_rf (by omega) (by omega)
 unfold m10Unlink
 cases (m08Link w x.pred (pPack x.curr false) (pPack (pIndex x.next) false)).2
 ·show WS w x ((m08Link w x.pred (pPack x.curr false) (pPack (pIndex x.next) false)).1, ⟨x.key, x.mode, 0, x.pred, x.curr, x.next, x.seen, x.found, x.stop, x.done⟩)
  refine ⟨hJ', ⟨Int.le_refl 0, (by decide : (0 : Int) ≤ 7), fun _ q => absurd rfl q, fun q => absurd (hd.symm.trans q) (by decide)⟩, rfl, rfl, rfl, fun o n ho hw h1 h2 => ?_⟩
  rcases h2 with h2 | h2
  ·exact absurd rfl h2
  ·exact absurd (hd.symm.trans h2) (by decide)
 ·obtain ⟨q1, q2, q3, q4⟩ := arr (w := (m08Link w x.pred (pPack x.curr false) (pPack (pIndex x.next) false)).1) (x := ⟨x.key, x.mode, x.phase, x.pred, (pIndex x.next), x.next, x.seen, x.found, x.stop, x.done⟩) ⟨a1.k, hp2⟩ hW.p0 hW.p7 hd
  show WS w x ((m08Link w x.pred (pPack x.curr false) (pPack (pIndex x.next) false)).1, m10Arrive ((m08Link w x.pred (pPack x.curr false) (pPack (pIndex x.next) false)).1) ⟨x.key, x.mode, x.phase, x.pred, (pIndex x.next), x.next, x.seen, x.found, x.stop, x.done⟩)
  refine ⟨hJ', q1, rfl, q3, q4, fun o n ho hw h1 h2 => ?_⟩
  rw [q2]
  exact hw (by rw [← hs.o]; exact h1) (.inl (by omega))
theorem ws4 (hJ : Jm w) (hW : WI w.b x) (hd : x.done = false) (hp : x.phase = 4) : WS w x ((m08Link w x.curr x.next (pMark x.next)).1, ⟨x.key, x.mode, 1, x.pred, x.curr, x.next, x.seen, x.found, x.stop, x.done⟩) := by
 obtain ⟨a1, a2, a3, a4⟩ := hW.a hd (by omega)
 have hc := a1.c.resolve_left a2
 have hs := nx_link w x.curr x.next (pMark x.next)
 refine ⟨hJ.nx hs (fun _ => (a4 (by omega)).mark hJ.t) (fun e => absurd e (nd_ne hJ.t hc.1).1), ⟨(by decide : (0 : Int) ≤ 1), (by decide : (1 : Int) ≤ 7), fun _ _ => ⟨⟨a1.k, a1.c⟩, a2, a3, fun q => absurd q (by decide : ¬ (2 : Int) ≤ 1)⟩, fun q => absurd (hd.symm.trans q) (by decide)⟩, rfl, rfl, rfl, fun o n ho hw h1 h2 => ?_⟩
 exact hw (by rw [← hs.o]; exact h1) (.inl (by omega))
theorem ws_stay (hJ : Jm w) (hW : WI w.b x) (hd : x.done = false) (hp : 2 ≤ x.phase) {v : RW} (hJ' : Jm v) (hb : v.b = w.b) (ho : ∀ o, wv v o = 0 → wv w o = 0) (f s : Int) (hf : 3 ≤ f ∧ f ≤ 7) : WS w x (v, ⟨x.key, x.mode, f, x.pred, x.curr, x.next, s, x.found, x.stop, x.done⟩) := by
 obtain ⟨a1, a2, a3, a4⟩ := hW.a hd (by omega)
 refine ⟨hJ', ⟨by show 0 ≤ f; omega, by show f ≤ 7; omega, fun _ _ => ⟨⟨a1.k, a1.c⟩, a2, a3, fun _ => a4 hp⟩, fun q => absurd (hd.symm.trans q) (by decide)⟩, hb, rfl, rfl, fun o n hq hw h1 h2 => ?_⟩
 exact hw (ho o h1) (.inl (by omega))
theorem walk_step (hJ : Jm w) (hW : WI w.b x) : WS w x (m10Step w x) := by
 cases hd : x.done
 ·have h0 := hW.p0; have h7 := hW.p7
  have hc : x.phase = 0 ∨ x.phase = 1 ∨ x.phase = 2 ∨ x.phase = 3 ∨ x.phase = 4 ∨ x.phase = 5 ∨ x.phase = 6 ∨ x.phase = 7 := by omega
  rcases hc with hp | hp | hp | hp | hp | hp | hp | hp
  ·have e : m10Step w x = m10Look w x := by unfold m10Step; rw [hd, hp]; rfl
   rw [e]; exact ws0 hJ hd hp
  ·have e : m10Step w x = m10Look w x := by unfold m10Step; rw [hd, hp]; rfl
   rw [e]; exact ws1 hJ hW hd hp
  ·have e : m10Step w x = m10Unlink w x := by unfold m10Step; rw [hd, hp]; rfl
   rw [e]; exact ws2 hJ hW hd hp
  ·have e : m10Step w x = m10Look w x := by unfold m10Step; rw [hd, hp]; rfl
   rw [e]; exact ws3 hJ hW hd hp
  ·have e : m10Step w x = ((m08Link w x.curr x.next (pMark x.next)).1, ⟨x.key, x.mode, 1, x.pred, x.curr, x.next, x.seen, x.found, x.stop, x.done⟩) := by unfold m10Step; rw [hd, hp]; rfl
   rw [e]; exact ws4 hJ hW hd hp
  ·have hs := sm_word w x.seen
   have e : m10Step w x = (bif ((m08Word w x.seen).2 != 1) then ((m08Word w x.seen).1, ⟨x.key, x.mode, 6, x.pred, x.curr, x.next, (-1), x.found, x.stop, x.done⟩) else ((m08Word w x.seen).1, ⟨x.key, x.mode, 7, x.pred, x.curr, x.next, x.seen, x.found, x.stop, x.done⟩)) := by unfold m10Step; rw [hd, hp]; rfl
   rw [e]
   cases ((m08Word w x.seen).2 != 1)
   ·exact ws_stay hJ hW hd (by omega) (hJ.sm hs) rfl (fun o h => by rw [← hs.o]; exact h) 7 _ (by decide)
   ·exact ws_stay hJ hW hd (by omega) (hJ.sm hs) rfl (fun o h => by rw [← hs.o]; exact h) 6 _ (by decide)
  ·have hs := wx_turn w (carF w.b x.curr) 0 1
   have e : m10Step w x = ((m08Turn w (carF w.b x.curr) 0 1).1, ⟨x.key, x.mode, 3, x.pred, x.curr, x.next, x.seen, x.found, x.stop, x.done⟩) := by unfold m10Step; rw [hd, hp]; rfl
   rw [e]
   exact ws_stay hJ hW hd (by omega) (hJ.wx hs) rfl (fun o h => by rcases hs.o o with q | q; rw [← q]; exact h; rw [q] at h; exact absurd h (by decide)) 3 _ (by decide)
  ·have hs := wx_turn w (carF w.b x.curr) 0 2
   have e : m10Step w x = ((m08Turn w (carF w.b x.curr) 0 2).1, ⟨x.key, x.mode, 3, x.pred, x.curr, x.next, x.seen, x.found, x.stop, x.done⟩) := by unfold m10Step; rw [hd, hp]; rfl
   rw [e]
   exact ws_stay hJ hW hd (by omega) (hJ.wx hs) rfl (fun o h => by rcases hs.o o with q | q; rw [← q]; exact h; rw [q] at h; exact absurd h (by decide)) 3 _ (by decide)
 ·have e : m10Step w x = (w, x) := by unfold m10Step; rw [hd]; rfl
  rw [e]
  exact ⟨hJ, hW, rfl, rfl, rfl, fun _ _ _ h => h⟩
end
theorem wi_new (b : RB) (k m : Int) : WI b (m10New k m) := ⟨Int.le_refl 0, (by decide : (0 : Int) ≤ 7), fun _ q => absurd rfl q, fun q => (by cases q)⟩
theorem Gr.pd {b b' : RB} (h : Gr b b') (hi : Inv b) {p n : Int} (hn : NdM b n) (hp : Pd b p n) : Pd b' p n := by
 rcases hp with e | e | e
 ·exact .inl e
 ·exact .inr (.inl e)
 ·exact .inr (.inr ⟨h.md e.1, h.lt hi e.1 hn e.2⟩)
theorem Gr.pk {b b' : RB} (h : Gr b b') (hi : Inv b) {p k : Int} (hp : Pk b p k) : Pk b' p k := by
 rcases hp with e | e | e
 ·exact .inl e
 ·exact .inr (.inl e)
 ·exact .inr (.inr ⟨h.md e.1, by rw [h.key hi e.1]; exact e.2⟩)
theorem Gr.wa {b b' : RB} (h : Gr b b') (hi : Inv b) {x : WalkR} (hx : WA b x) : WA b' x := ⟨h.pk hi hx.k, hx.c.imp id (fun q => ⟨h.md q.1, h.pd hi q.1 q.2⟩)⟩
end Go.Proofs.Ytbhakljebcmocaa.PBoundKeeps
end
section
namespace Go.Proofs.Ytbhakljebcmocaa.PBoundKeeps
open Go.RowKit Go.Proofs.YtbhakljebcmocaaW.PrintWords Go.Proofs.YtbhakljebcmocaaW.PrintLast Go.Proofs.YtbhakljebcmocaaW.PrintMore
set_option linter.unusedVariables false
set_option linter.unusedSimpArgs false
def pkey (b : RB) (o : Int) : Int := (callF b o).f1
def Last (b : RB) (n : Int) : Prop := ∀ y, NdM b y → y ≤ n
structure PU (w : RW) (x : PutR) : Prop where
 nd : x.node = 0 ∨ (NdM w.b x.node ∧ carF w.b x.node = x.op ∧ keyF w.b x.node = pkey w.b x.op ∧ Last w.b x.node)
 p0 : 0 ≤ x.phase
 p5 : x.phase ≤ 5
 wk : 1 ≤ x.phase → WI w.b x.walk
 mo : 1 ≤ x.phase → x.phase ≤ 4 → x.walk.mode = 1 ∧ x.walk.key = pkey w.b x.op
 wn : x.phase = 1 ∨ x.phase = 2 → x.node ≠ 0 → Wn w x.walk x.op x.node
 dn : 2 ≤ x.phase → x.phase ≤ 4 → x.walk.done = true
 pn : 3 ≤ x.phase → x.phase ≤ 4 → x.walk.pred ≠ x.node
 n4 : x.phase = 4 → x.node ≠ 0
structure ST (w : RW) (v : RW) : Prop where
 j : Jm v
 g : Gr w.b v.b
theorem pu_new (w : RW) (a b : Int) : PU w (m11New a b) := ⟨.inl rfl, Int.le_refl 0, (by decide : (0 : Int) ≤ 5), fun q => absurd q (by decide : ¬ (1 : Int) ≤ 0), fun q => absurd q (by decide : ¬ (1 : Int) ≤ 0), fun q => absurd q (by decide : ¬ ((0 : Int) = 1 ∨ (0 : Int) = 2)), fun q => absurd q (by decide : ¬ (2 : Int) ≤ 0), fun q => absurd q (by decide : ¬ (3 : Int) ≤ 0), fun q => absurd q (by decide : ¬ (0 : Int) = 4)⟩
theorem Wn.same {w v : RW} {x : WalkR} {o n : Int} (ho : ∀ o, wv v o = wv w o) (h : Wn w x o n) : Wn v x o n := fun h1 => h (by rw [← ho]; exact h1)
theorem PU.same {w v : RW} {x : PutR} (hb : v.b = w.b) (ho : ∀ o, wv v o = wv w o) (h : PU w x) : PU v x :=
 ⟨by rw [hb]; exact h.nd, h.p0, h.p5, fun q => by rw [hb]; exact h.wk q, fun q r => by rw [hb]; exact h.mo q r, fun q r => (h.wn q r).same ho, h.dn, h.pn, h.n4⟩
section
variable {w : RW}
theorem pu_pred (hJ : Jm w) {x : WalkR} (hW : WI w.b x) (hd : x.done = true) (hm : x.mode = 1) : x.pred ≠ 0 := by
 rcases (hW.d hd hm).1.k with e | e | e
 ·omega
 ·omega
 ·have := nd_ne hJ.t e.1; omega
theorem put_told (hJ : Jm w) {x : PutR} (hP : PU w x) (hp : x.phase = 0 ∨ x.phase = 2) : ST w (m08Word w x.op).1 ∧ ((m11Told ((m08Word w x.op).1) x ((m08Word w x.op).2)).done = false → PU (m08Word w x.op).1 (m11Told ((m08Word w x.op).1) x ((m08Word w x.op).2))) := by
 have hs := sm_word w x.op
 refine ⟨⟨hJ.sm hs, .rfl' _⟩, ?_⟩
 have hP' := PU.same (w := w) (v := (m08Word w x.op).1) rfl hs.o hP
 unfold m11Told
 by_cases h1 : wv w x.op = 0
 ·rw [show ((m08Word w x.op).2 == 0) = true by show (wv w x.op == 0) = true; rw [h1]; rfl]
  rcases hp with hp | hp
  ·rw [show (x.phase == 2) = false by rw [hp]; rfl]
   intro _
   refine ⟨hP'.nd, (by decide : (0 : Int) ≤ 1), (by decide : (1 : Int) ≤ 5), fun _ => wi_new _ _ _, fun _ _ => ⟨rfl, rfl⟩, fun _ _ _ q => ?_, fun q => absurd q (by decide : ¬ (2 : Int) ≤ 1), fun q => absurd q (by decide : ¬ (3 : Int) ≤ 1), fun q => absurd q (by decide : ¬ (1 : Int) = 4)⟩
   rcases q with q | q
   ·exact absurd rfl q
   ·cases q
  ·rw [show (x.phase == 2) = true by rw [hp]; rfl]
   intro _
   refine ⟨hP'.nd, (by decide : (0 : Int) ≤ 3), (by decide : (3 : Int) ≤ 5), fun _ => hP'.wk (by omega), fun _ _ => hP'.mo (by omega) (by omega), fun q => absurd q (by decide : ¬ ((3 : Int) = 1 ∨ (3 : Int) = 2)), fun _ _ => hP.dn (by omega) (by omega), fun _ _ => ?_, fun q => absurd q (by decide : ¬ (3 : Int) = 4)⟩
   have hd := hP.dn (by omega) (by omega)
   show x.walk.pred ≠ x.node
   by_cases hn : x.node = 0
   ·rw [hn]; exact pu_pred hJ (hP.wk (by omega)) hd (hP.mo (by omega) (by omega)).1
   ·exact hP.wn (.inr hp) hn h1 (.inr hd)
 ·rw [show ((m08Word w x.op).2 == 0) = false by show (wv w x.op == 0) = false; simpa using h1]
  cases x.linked
  ·intro q; cases q
  ·intro _
   exact ⟨hP'.nd, (by decide : (0 : Int) ≤ 5), (by decide : (5 : Int) ≤ 5), fun _ => wi_new _ _ _, fun _ q => absurd q (by decide : ¬ (5 : Int) ≤ 4), fun q => absurd q (by decide : ¬ ((5 : Int) = 1 ∨ (5 : Int) = 2)), fun _ q => absurd q (by decide : ¬ (5 : Int) ≤ 4), fun _ q => absurd q (by decide : ¬ (5 : Int) ≤ 4), fun q => absurd q (by decide : ¬ (5 : Int) = 4)⟩
theorem put_walk1 (hJ : Jm w) {x : PutR} (hP : PU w x) (hp : x.phase = 1) (f : Int) (hf : f = 1 ∧ (m10Step w x.walk).2.done = false ∨ f = 2 ∧ (m10Step w x.walk).2.done = true) : ST w (m10Step w x.walk).1 ∧ PU (m10Step w x.walk).1 ⟨x.op, x.thread, f, x.node, x.linked, (m10Step w x.walk).2, x.done, x.won⟩ := by
 have hs := walk_step hJ (hP.wk (by omega))
 obtain ⟨hm, hk⟩ := hP.mo (by omega) (by omega)
 have hb : (m10Step w x.walk).1.b = w.b := hs.bk
 refine ⟨⟨hs.j, by rw [hb]; exact .rfl' _⟩, ⟨by rw [hb]; exact hP.nd, by show 0 ≤ f; omega, by show f ≤ 5; omega, fun _ => by rw [hb]; exact hs.wi, fun _ _ => ⟨hs.mo.trans hm, by rw [hb]; exact hs.ke.trans hk⟩, fun _ hn => ?_, fun (q : 2 ≤ f) _ => ?_, fun (q : 3 ≤ f) _ => ?_, fun (q : f = 4) => ?_⟩⟩
 ·obtain ⟨n1, n2, n3, n4⟩ := hP.nd.resolve_left hn
  exact hs.ow x.op x.node ⟨hm, n1, n2, n3.trans hk.symm⟩ (hP.wn (.inl hp) hn)
 ·rcases hf with h | h
  ·omega
  ·exact h.2
 ·omega
 ·omega
theorem nn_new (hJ : Jm w) {k : Int} (hk : (fOp w.b.ops k).isSome = true) (hm : ¬ w.b.made.getD 0 0 = 2 * w.b.c.f4) {b' : RB} (e : b' = (w.b.mades 0).addNode (ndNo w.b.c 0 (w.b.made.getD 0 0)) k) (hi : Inv b') : Tb1 b' ∧ Gr w.b b' ∧ NdM b' (2 + w.b.made.getD 0 0) ∧ carF b' (2 + w.b.made.getD 0 0) = k ∧ keyF b' (2 + w.b.made.getD 0 0) = pkey w.b k ∧ Last b' (2 + w.b.made.getD 0 0) ∧ (∀ p, NdM b' p → p = 2 + w.b.made.getD 0 0 ∨ NdM w.b p) ∧ (∀ p, NdM w.b p → p < 2 + w.b.made.getD 0 0) := by
 have hn : ndNo w.b.c 0 (w.b.made.getD 0 0) = 2 + w.b.made.getD 0 0 := by
  unfold ndNo
  have := hJ.t.u
  simp only [Int.zero_mul]
  omega
 rw [hn] at e
 have hlt : ∀ p, NdM w.b p → p < 2 + w.b.made.getD 0 0 := fun p hp => (hJ.t.md hp).2.1
 have hnodes : b'.nodes = w.b.nodes ++ [⟨2 + w.b.made.getD 0 0, k⟩] := by rw [e]; rfl
 have hops : b'.ops = w.b.ops := by rw [e]; rfl
 have hc : b'.c = w.b.c := by rw [e]; rfl
 have hg : Gr w.b b' := ⟨hc, fun m hm => by rw [hnodes]; exact fNd_app _ _ _ hm, fun o _ => by rw [hops]⟩
 have hcar : carF b' (2 + w.b.made.getD 0 0) = k := by
  unfold carF fNd
  rw [hnodes, List.find?_append, List.find?_eq_none.mpr (fun z hz => by
   have := hlt z.f0 (md_iff.mpr ⟨z, hz, rfl⟩)
   intro q
   have q' := beq_iff_eq.mp q
   omega)]
  simp [ndR]
 refine ⟨⟨hi, by rw [hc]; exact hJ.t.t, by rw [hc]; exact hJ.t.u, by rw [hc]; exact hJ.t.f⟩, hg, md_iff.mpr ⟨⟨2 + w.b.made.getD 0 0, k⟩, by rw [hnodes]; simp, rfl⟩, hcar, ?_, fun y hy => ?_, fun p hp => ?_, hlt⟩
 ·rw [keyF_car, hcar]
  unfold pkey callF
  rw [hops]
 ·obtain ⟨z, hz, rfl⟩ := md_iff.mp hy
  rw [hnodes] at hz
  rcases List.mem_append.mp hz with h | h
  ·have := hlt z.f0 (md_iff.mpr ⟨z, h, rfl⟩); omega
  ·obtain rfl := List.mem_singleton.mp h; exact Int.le_refl _
 ·obtain ⟨z, hz, rfl⟩ := md_iff.mp hp
  rw [hnodes] at hz
  rcases List.mem_append.mp hz with h | h
  ·exact .inr (md_iff.mpr ⟨z, h, rfl⟩)
  ·obtain rfl := List.mem_singleton.mp h; exact .inl rfl
theorem Gr.wid {b b' : RB} (h : Gr b b') (hi : Inv b) {x : WalkR} (hd : x.done = true) (hx : WI b x) : WI b' x :=
 ⟨hx.p0, hx.p7, fun q => absurd (hd.symm.trans q) (by decide), fun q r => ⟨h.wa hi (hx.d q r).1, by
  rcases (hx.d q r).1.c with e | e
  ·exact .inl e
  ·exact (hx.d q r).2.imp id (fun s => by rw [h.key hi e.1]; exact s)⟩⟩
theorem put_lay (hJ : Jm w) {x : PutR} (hP : PU w x) (hp : x.phase = 3) : ST w (m11Lay w x).1 ∧ ((m11Lay w x).2.done = false → PU (m11Lay w x).1 (m11Lay w x).2) := by
 obtain ⟨hm, hk⟩ := hP.mo (by omega) (by omega)
 have hd := hP.dn (by omega) (by omega)
 have hpn := hP.pn (by omega) (by omega)
 have hW := hP.wk (by omega)
 obtain ⟨d1, d2⟩ := hW.d hd hm
 unfold m11Lay
 by_cases hn : x.node = 0
 ·rw [show (x.node == 0) = true by rw [hn]; rfl, m07Make_eq hJ.t.i]
  have hinv := inv_m07Make hJ.t.i x.thread x.op
  rw [m07Make_eq hJ.t.i] at hinv
  have hcl := hJ.t.calls
  unfold mkR at hinv ⊢
  by_cases h1 : 0 ≤ x.thread ∧ x.thread < (w.b.calls.length : Int) ∧ (fOp w.b.ops x.op).isSome = true
  ·rw [if_pos h1] at hinv ⊢
   have ht : x.thread.toNat = 0 := by omega
   have ht0 : x.thread = 0 := by omega
   rw [ht] at hinv ⊢
   by_cases h2 : w.b.made.getD 0 0 = 2 * w.b.c.f4
   ·rw [if_pos h2]
    exact ⟨⟨hJ, .rfl' _⟩, fun q => by cases q⟩
   ·rw [if_neg h2] at hinv ⊢
    obtain ⟨b', e⟩ : ∃ b', b' = (w.b.mades 0).addNode (ndNo w.b.c x.thread (w.b.made.getD 0 0)) x.op := ⟨_, rfl⟩
    have hinv' : Inv b' := by rw [e]; exact hinv
    have e0 := e
    rw [ht0] at e
    obtain ⟨n1, n2, n3, n4, n5, n6, n7, n8⟩ := nn_new hJ h1.2.2 h2 e hinv'
    have hno : ndNo w.b.c x.thread (w.b.made.getD 0 0) = 2 + w.b.made.getD 0 0 := by
     unfold ndNo
     have := hJ.t.u
     rw [ht0]
     simp only [Int.zero_mul]
     omega
    show ST w (m08Set (RW.mk w.c w.ws w.st ((w.b.mades 0).addNode (ndNo w.b.c x.thread (w.b.made.getD 0 0)) x.op)) (ndNo w.b.c x.thread (w.b.made.getD 0 0)) (pPack x.walk.curr false)) ∧ (_ → PU (m08Set (RW.mk w.c w.ws w.st ((w.b.mades 0).addNode (ndNo w.b.c x.thread (w.b.made.getD 0 0)) x.op)) (ndNo w.b.c x.thread (w.b.made.getD 0 0)) (pPack x.walk.curr false)) ⟨x.op, x.thread, 4, ndNo w.b.c x.thread (w.b.made.getD 0 0), x.linked, x.walk, x.done, x.won⟩)
    rw [← e0, hno]
    have hmd := hJ.t.made
    obtain ⟨w1, ew⟩ : ∃ w1, w1 = RW.mk w.c w.ws w.st b' := ⟨_, rfl⟩
    rw [← ew]
    have hb1 : w1.b = b' := by rw [ew]
    have hc1 : w1.c = w.c := by rw [ew]
    have hnv : ∀ p, nv w1 p = nv w p := fun p => by rw [nv_cv, nv_cv, ew]
    have hx := nx_set w1 (2 + w.b.made.getD 0 0) (pPack x.walk.curr false)
    have hin := hJ.lnx (n := 2 + w.b.made.getD 0 0) (by omega) (by have := hJ.t.i.hm 0 (by omega); omega)
    have hset : nv (m08Set w1 (2 + w.b.made.getD 0 0) (pPack x.walk.curr false)) (2 + w.b.made.getD 0 0) = pPack x.walk.curr false := set_in (by rw [hc1]; exact hin.1) (by rw [hc1, ew]; exact hin.2)
    have hcur : x.walk.curr = 0 ∨ (NdM b' x.walk.curr ∧ ltN b' (2 + w.b.made.getD 0 0) x.walk.curr) := by
     rcases d1.c with q | q
     ·exact .inl q
     ·rcases d2 with r | r
      ·exact .inl r
      ·refine .inr ⟨n2.md q.1, .inl ?_⟩
       rw [n5, n2.key hJ.t.i q.1, ← hk]
       exact r
    have hJ' : Jm (m08Set w1 (2 + w.b.made.getD 0 0) (pPack x.walk.curr false)) := by
     refine ⟨by rw [hx.b, hb1]; exact n1, by rw [hx.b, hx.c, hb1, hc1, n2.c]; exact hJ.c, by rw [hx.l, hx.c, hc1, ew]; exact hJ.l, fun p hp => ?_, ?_⟩
     ·rw [hx.b, hb1] at hp ⊢
      rcases n7 p hp with q | q
      ·rw [q, hset]; exact NxOk.mk n1 hcur
      ·rcases hx.n p with r | r
       ·rw [r, hnv]; exact n2.nxok hJ.t.i q (hJ.n p q)
       ·have := n8 p q; omega
     ·rw [hx.b, hb1]
      rcases hx.n 1 with r | r
      ·rw [r, hnv]
       obtain ⟨y, y1, y2⟩ := hJ.h
       exact ⟨y, y1, y2.imp id n2.md⟩
      ·omega
    have hbb : (m08Set w1 (2 + w.b.made.getD 0 0) (pPack x.walk.curr false)).b = b' := hx.b.trans hb1
    refine ⟨⟨hJ', by rw [hbb]; exact n2⟩, fun _ => ⟨.inr ?_, (by decide : (0 : Int) ≤ 4), (by decide : (4 : Int) ≤ 5), fun _ => by rw [hbb]; exact n2.wid hJ.t.i hd hW, fun _ _ => ⟨hm, ?_⟩, fun q => absurd q (by decide : ¬ ((4 : Int) = 1 ∨ (4 : Int) = 2)), fun _ _ => hd, fun _ _ => ?_, fun _ => by show 2 + w.b.made.getD 0 0 ≠ 0; omega⟩⟩
    ·rw [hbb]
     refine ⟨n3, n4, ?_, n6⟩
     rw [n5]
     unfold pkey callF
     rw [n2.o _ h1.2.2]
    ·rw [hbb, hk]
     unfold pkey callF
     rw [n2.o _ h1.2.2]
    ·show x.walk.pred ≠ 2 + w.b.made.getD 0 0
     rcases d1.k with q | q | q
     ·omega
     ·omega
     ·have := n8 _ q.1; omega
  ·rw [if_neg h1]
   exact ⟨⟨hJ, .rfl' _⟩, fun q => by cases q⟩
 ·rw [show (x.node == 0) = false by simpa using hn]
  obtain ⟨n1, n2, n3, n4⟩ := hP.nd.resolve_left hn
  have hx := nx_set w x.node (pPack x.walk.curr false)
  have hJ' : Jm (m08Set w x.node (pPack x.walk.curr false)) := by
   refine hJ.nx hx (fun _ => NxOk.mk hJ.t ?_) (fun q => absurd q (nd_ne hJ.t n1).1)
   rcases d1.c with q | q
   ·exact .inl q
   ·rcases d2 with r | r
    ·exact .inl r
    ·exact .inr ⟨q.1, .inl (by rw [n3, ← hk]; exact r)⟩
  have hP' := PU.same (w := w) (v := m08Set w x.node (pPack x.walk.curr false)) rfl hx.o hP
  exact ⟨⟨hJ', .rfl' _⟩, fun _ => ⟨hP'.nd, (by decide : (0 : Int) ≤ 4), (by decide : (4 : Int) ≤ 5), fun _ => hP'.wk (by omega), fun _ _ => hP'.mo (by omega) (by omega), fun q => absurd q (by decide : ¬ ((4 : Int) = 1 ∨ (4 : Int) = 2)), fun _ _ => hd, fun _ _ => hpn, fun _ => hn⟩⟩
theorem put_link (hJ : Jm w) {x : PutR} (hP : PU w x) (hp : x.phase = 4) (l : Bool) : ST w (m08Link w x.walk.pred (pPack x.walk.curr false) (pPack x.node false)).1 ∧ PU (m08Link w x.walk.pred (pPack x.walk.curr false) (pPack x.node false)).1 ⟨x.op, x.thread, 0, x.node, l, x.walk, x.done, x.won⟩ := by
 obtain ⟨hm, hk⟩ := hP.mo (by omega) (by omega)
 have hd := hP.dn (by omega) (by omega)
 obtain ⟨n1, n2, n3, n4⟩ := hP.nd.resolve_left (hP.n4 hp)
 obtain ⟨d1, d2⟩ := (hP.wk (by omega)).d hd hm
 have hx := nx_link w x.walk.pred (pPack x.walk.curr false) (pPack x.node false)
 have hnd := hJ.t.md n1
 have hJ' : Jm (m08Link w x.walk.pred (pPack x.walk.curr false) (pPack x.node false)).1 := by
  refine hJ.nx hx (fun hq => NxOk.mk hJ.t (.inr ⟨n1, ?_⟩)) (fun _ => ⟨x.node, pack_rf (by omega) (by omega), .inr n1⟩)
  have h2 := nd_ne hJ.t hq
  rcases d1.k with q | q | q
  ·omega
  ·omega
  ·have h3 := n4 _ hq
   have h4 := hP.pn (by omega) (by omega)
   have h5 := q.2
   unfold ltN
   rw [n3, ← hk]
   omega
 have hP' := PU.same (w := w) (v := (m08Link w x.walk.pred (pPack x.walk.curr false) (pPack x.node false)).1) rfl hx.o hP
 exact ⟨⟨hJ', .rfl' _⟩, ⟨hP'.nd, Int.le_refl 0, (by decide : (0 : Int) ≤ 5), fun q => absurd q (by decide : ¬ (1 : Int) ≤ 0), fun q => absurd q (by decide : ¬ (1 : Int) ≤ 0), fun q => absurd q (by decide : ¬ ((0 : Int) = 1 ∨ (0 : Int) = 2)), fun q => absurd q (by decide : ¬ (2 : Int) ≤ 0), fun q => absurd q (by decide : ¬ (3 : Int) ≤ 0), fun q => absurd q (by decide : ¬ (0 : Int) = 4)⟩⟩
theorem put_step (hJ : Jm w) {x : PutR} (hP : x.done = false → PU w x) : ST w (m11Step w x).1 ∧ ((m11Step w x).2.done = false → PU (m11Step w x).1 (m11Step w x).2) := by
 cases hd : x.done
 ·have hP := hP hd
  have hc : x.phase = 0 ∨ x.phase = 1 ∨ x.phase = 2 ∨ x.phase = 3 ∨ x.phase = 4 ∨ x.phase = 5 := by have := hP.p0; have := hP.p5; omega
  rcases hc with hp | hp | hp | hp | hp | hp
  ·have e : m11Step w x = ((m08Word w x.op).1, (m11Told ((m08Word w x.op).1) x ((m08Word w x.op).2))) := by unfold m11Step; rw [hd, hp]; rfl
   rw [e]; exact put_told hJ hP (.inl hp)
  ·have e : m11Step w x = (bif ((m10Step w x.walk).2).done then ((m10Step w x.walk).1, ⟨x.op, x.thread, 2, x.node, x.linked, (m10Step w x.walk).2, x.done, x.won⟩) else ((m10Step w x.walk).1, ⟨x.op, x.thread, 1, x.node, x.linked, (m10Step w x.walk).2, x.done, x.won⟩)) := by unfold m11Step; rw [hd, hp]; rfl
   rw [e]
   cases h1 : ((m10Step w x.walk).2).done
   ·obtain ⟨q1, q2⟩ := put_walk1 hJ hP hp 1 (.inl ⟨rfl, h1⟩)
    exact ⟨q1, fun _ => q2⟩
   ·obtain ⟨q1, q2⟩ := put_walk1 hJ hP hp 2 (.inr ⟨rfl, h1⟩)
    exact ⟨q1, fun _ => q2⟩
  ·have e : m11Step w x = ((m08Word w x.op).1, (m11Told ((m08Word w x.op).1) x ((m08Word w x.op).2))) := by unfold m11Step; rw [hd, hp]; rfl
   rw [e]; exact put_told hJ hP (.inr hp)
  ·have e : m11Step w x = m11Lay w x := by unfold m11Step; rw [hd, hp]; rfl
   rw [e]; exact put_lay hJ hP hp
  ·have e : m11Step w x = (bif x.linked then ((m08Link w x.walk.pred (pPack x.walk.curr false) (pPack x.node false)).1, ⟨x.op, x.thread, 0, x.node, true, x.walk, x.done, x.won⟩) else ((m08Link w x.walk.pred (pPack x.walk.curr false) (pPack x.node false)).1, ⟨x.op, x.thread, 0, x.node, (m08Link w x.walk.pred (pPack x.walk.curr false) (pPack x.node false)).2, x.walk, x.done, x.won⟩)) := by unfold m11Step; rw [hd, hp]; rfl
   rw [e]
   cases x.linked
   ·obtain ⟨q1, q2⟩ := put_link hJ hP hp (m08Link w x.walk.pred (pPack x.walk.curr false) (pPack x.node false)).2
    exact ⟨q1, fun _ => q2⟩
   ·obtain ⟨q1, q2⟩ := put_link hJ hP hp true
    exact ⟨q1, fun _ => q2⟩
  ·have hs := walk_step hJ (hP.wk (by omega))
   have e : m11Step w x = (bif ((m10Step w x.walk).2).done then ((m10Step w x.walk).1, ⟨x.op, x.thread, 5, x.node, x.linked, (m10Step w x.walk).2, true, x.won⟩) else ((m10Step w x.walk).1, ⟨x.op, x.thread, 5, x.node, x.linked, (m10Step w x.walk).2, x.done, x.won⟩)) := by unfold m11Step; rw [hd, hp]; rfl
   have hST : ST w (m10Step w x.walk).1 := ⟨hs.j, by rw [hs.bk]; exact .rfl' _⟩
   have h5 : PU (m10Step w x.walk).1 ⟨x.op, x.thread, 5, x.node, x.linked, (m10Step w x.walk).2, x.done, x.won⟩ := by
    refine ⟨?_, (by decide : (0 : Int) ≤ 5), (by decide : (5 : Int) ≤ 5), fun _ => ?_, fun _ q => absurd q (by decide : ¬ (5 : Int) ≤ 4), fun q => absurd q (by decide : ¬ ((5 : Int) = 1 ∨ (5 : Int) = 2)), fun _ q => absurd q (by decide : ¬ (5 : Int) ≤ 4), fun _ q => absurd q (by decide : ¬ (5 : Int) ≤ 4), fun q => absurd q (by decide : ¬ (5 : Int) = 4)⟩
    ·rw [hs.bk]; exact hP.nd
    ·rw [hs.bk]; exact hs.wi
   rw [e]
   cases ((m10Step w x.walk).2).done
   ·exact ⟨hST, fun _ => h5⟩
   ·exact ⟨hST, fun q => by cases q⟩
 ·have e : m11Step w x = (w, x) := by unfold m11Step; rw [hd]; rfl
  rw [e]
  exact ⟨⟨hJ, .rfl' _⟩, fun q => absurd (hd.symm.trans q) (by decide)⟩
end
end Go.Proofs.Ytbhakljebcmocaa.PBoundKeeps
end
section
namespace Go.Proofs.Ytbhakljebcmocaa.PBoundKeeps
open Go.RowKit Go.Proofs.YtbhakljebcmocaaW.PrintWords Go.Proofs.YtbhakljebcmocaaW.PrintLast Go.Proofs.YtbhakljebcmocaaW.PrintMore
set_option linter.unusedVariables false
set_option linter.unusedSimpArgs false
theorem bif_pc {α : Type} {p : α → Prop} {b : Bool} {x y : α} (h1 : b = true → p x) (h2 : b = false → p y) : p (bif b then x else y) := by
 cases b
 ·exact h2 rfl
 ·exact h1 rfl
def TK (b : RB) (x : TakeR) : Prop := (x.phase = 1 ∨ x.phase = 5) → WI b x.walk
def GK (b : RB) (x : GetR) : Prop := x.phase = 1 → WI b x.walk
structure SB' (w v : RW) : Prop where
 j : Jm v
 b : v.b = w.b
section
variable {w : RW}
theorem sb_word (hJ : Jm w) (i : Int) : SB' w (m08Word w i).1 := ⟨hJ.sm (sm_word w i), rfl⟩
theorem sb_turn (hJ : Jm w) (i o x : Int) : SB' w (m08Turn w i o x).1 := ⟨hJ.wx (wx_turn w i o x), rfl⟩
theorem take_asks (hJ : Jm w) {x : TakeR} (hp : x.phase = 0 ∨ x.phase = 4) : SB' w (m12Asks w x).1 ∧ TK w.b (m12Asks w x).2 := by
 have hno : ∀ q : x.phase = 1 ∨ x.phase = 5, False := fun q => by omega
 unfold m12Asks
 refine bif_pc (p := fun r : RW × TakeR => SB' w r.1 ∧ TK w.b r.2) (fun _ => ?_) (fun _ => ?_)
 ·refine bif_pc (p := fun r : RW × TakeR => SB' w r.1 ∧ TK w.b r.2) (fun _ => ?_) (fun _ => ⟨sb_word hJ _, fun q => (hno q).elim⟩)
  refine bif_pc (p := fun r : RW × TakeR => SB' w r.1 ∧ TK w.b r.2) (fun _ => ⟨sb_word hJ _, fun _ => wi_new _ _ _⟩) (fun _ => ⟨sb_word hJ _, fun q => (hno q).elim⟩)
 ·refine bif_pc (p := fun r : RW × TakeR => SB' w r.1 ∧ TK w.b r.2) (fun _ => ⟨sb_word hJ _, fun _ => wi_new _ _ _⟩) (fun _ => ?_)
  refine bif_pc (p := fun r : RW × TakeR => SB' w r.1 ∧ TK w.b r.2) (fun _ => ⟨sb_word hJ _, fun q => (hno q).elim⟩) (fun _ => ⟨sb_word hJ _, fun q => absurd q (by decide : ¬ ((3 : Int) = 1 ∨ (3 : Int) = 5))⟩)
theorem take_walks (hJ : Jm w) {x : TakeR} (hT : TK w.b x) (hp : x.phase = 1 ∨ x.phase = 5) : SB' w (m12Walks w x).1 ∧ TK w.b (m12Walks w x).2 := by
 have hs := walk_step hJ (hT hp)
 have hb : SB' w (m10Step w x.walk).1 := ⟨hs.j, hs.bk⟩
 unfold m12Walks
 refine bif_pc (p := fun r : RW × TakeR => SB' w r.1 ∧ TK w.b r.2) (fun _ => ⟨hb, fun _ => hs.wi⟩) (fun _ => ?_)
 refine bif_pc (p := fun r : RW × TakeR => SB' w r.1 ∧ TK w.b r.2) (fun _ => ⟨hb, fun _ => hs.wi⟩) (fun _ => ?_)
 refine bif_pc (p := fun r : RW × TakeR => SB' w r.1 ∧ TK w.b r.2) (fun _ => ⟨hb, fun q => absurd q (by decide : ¬ ((2 : Int) = 1 ∨ (2 : Int) = 5))⟩) (fun _ => ⟨hb, fun q => absurd q (by decide : ¬ ((2 : Int) = 1 ∨ (2 : Int) = 5))⟩)
theorem take_step (hJ : Jm w) {x : TakeR} (hT : TK w.b x) : SB' w (m12Step w x).1 ∧ TK w.b (m12Step w x).2 := by
 unfold m12Step
 refine bif_pc (p := fun r : RW × TakeR => SB' w r.1 ∧ TK w.b r.2) (fun _ => ⟨⟨hJ, rfl⟩, hT⟩) (fun _ => ?_)
 refine bif_pc (p := fun r : RW × TakeR => SB' w r.1 ∧ TK w.b r.2) (fun h => take_asks hJ (.inl (beq_iff_eq.mp h))) (fun _ => ?_)
 refine bif_pc (p := fun r : RW × TakeR => SB' w r.1 ∧ TK w.b r.2) (fun h => take_asks hJ (.inr (beq_iff_eq.mp h))) (fun _ => ?_)
 refine bif_pc (p := fun r : RW × TakeR => SB' w r.1 ∧ TK w.b r.2) (fun h => take_walks hJ hT (.inl (beq_iff_eq.mp h))) (fun _ => ?_)
 refine bif_pc (p := fun r : RW × TakeR => SB' w r.1 ∧ TK w.b r.2) (fun h => take_walks hJ hT (.inr (beq_iff_eq.mp h))) (fun _ => ?_)
 refine bif_pc (p := fun r : RW × TakeR => SB' w r.1 ∧ TK w.b r.2) (fun _ => ⟨sb_turn hJ _ _ _, fun q => absurd q (by decide : ¬ ((0 : Int) = 1 ∨ (0 : Int) = 5))⟩) (fun _ => ?_)
 exact bif_pc (p := fun r : RW × TakeR => SB' w r.1 ∧ TK w.b r.2) (fun _ => ⟨sb_turn hJ _ _ _, fun q => absurd q (by decide : ¬ ((4 : Int) = 1 ∨ (4 : Int) = 5))⟩) (fun _ => ⟨⟨hJ, rfl⟩, hT⟩)
theorem get_step (hJ : Jm w) {x : GetR} (hT : GK w.b x) : SB' w (m13Step w x).1 ∧ GK w.b (m13Step w x).2 := by
 unfold m13Step
 refine bif_pc (p := fun r : RW × GetR => SB' w r.1 ∧ GK w.b r.2) (fun _ => ⟨⟨hJ, rfl⟩, hT⟩) (fun _ => ?_)
 refine bif_pc (p := fun r : RW × GetR => SB' w r.1 ∧ GK w.b r.2) (fun h => ?_) (fun _ => ?_)
 ·refine bif_pc (p := fun r : RW × GetR => SB' w r.1 ∧ GK w.b r.2) (fun _ => ⟨sb_word hJ _, fun _ => wi_new _ _ _⟩) (fun _ => ⟨sb_word hJ _, hT⟩)
 refine bif_pc (p := fun r : RW × GetR => SB' w r.1 ∧ GK w.b r.2) (fun h => ?_) (fun _ => ?_)
 ·have hs := walk_step hJ (hT (beq_iff_eq.mp h))
  have hb : SB' w (m10Step w x.walk).1 := ⟨hs.j, hs.bk⟩
  refine bif_pc (p := fun r : RW × GetR => SB' w r.1 ∧ GK w.b r.2) (fun _ => ?_) (fun _ => ⟨hb, fun _ => hs.wi⟩)
  refine bif_pc (p := fun r : RW × GetR => SB' w r.1 ∧ GK w.b r.2) (fun _ => ⟨hb, fun q => absurd q (by decide : ¬ (2 : Int) = 1)⟩) (fun _ => ⟨hb, fun q => absurd q (by decide : ¬ (2 : Int) = 1)⟩)
 exact bif_pc (p := fun r : RW × GetR => SB' w r.1 ∧ GK w.b r.2) (fun _ => ⟨sb_turn hJ _ _ _, fun q => absurd q (by decide : ¬ (0 : Int) = 1)⟩) (fun _ => ⟨⟨hJ, rfl⟩, hT⟩)
end
structure AK (w : RW) (x : ActR) : Prop where
 p : x.kind = 1 → x.place.done = false → PU w x.place
 t : x.kind = 2 → TK w.b x.take
 g : x.kind = 3 → GK w.b x.get
def HK (w : RW) (x : HelpR) : Prop := x.phase = 1 → AK w x.act
structure CK (w : RW) (x : CallR) : Prop where
 h : x.phase = 0 → HK w x.help
 a : x.phase = 1 → AK w x.act
theorem AK.same {w v : RW} {x : ActR} (hb : v.b = w.b) (ho : ∀ o, wv v o = wv w o) (h : AK w x) : AK v x := ⟨fun q r => (h.p q r).same hb ho, fun q => by rw [hb]; exact h.t q, fun q => by rw [hb]; exact h.g q⟩
theorem ak_new (w : RW) (a b : Int) (d : Bool) : AK w (m14New w a b d) := by
 unfold m14New
 refine bif_pc (p := fun r : ActR => AK w r) (fun h => ?_) (fun h1 => ?_)
 ·have e := beq_iff_eq.mp h
  exact ⟨fun _ _ => pu_new _ _ _, fun q => absurd (e.symm.trans q) (by decide), fun q => absurd (e.symm.trans q) (by decide)⟩
 have n1 : (callF w.b a).f0 ≠ 1 := fun e => by rw [e] at h1; cases h1
 refine bif_pc (p := fun r : ActR => AK w r) (fun h => ?_) (fun h2 => ?_)
 ·have e := beq_iff_eq.mp h
  exact ⟨fun q => absurd q n1, fun _ q => absurd q (by decide : ¬ ((0 : Int) = 1 ∨ (0 : Int) = 5)), fun q => absurd (e.symm.trans q) (by decide)⟩
 have n2 : (callF w.b a).f0 ≠ 2 := fun e => by rw [e] at h2; cases h2
 refine bif_pc (p := fun r : ActR => AK w r) (fun h => ?_) (fun h3 => ?_)
 ·exact ⟨fun q => absurd q n1, fun q => absurd q n2, fun _ q => absurd q (by decide : ¬ (0 : Int) = 1)⟩
 have n3 : (callF w.b a).f0 ≠ 3 := fun e => by rw [e] at h3; cases h3
 exact ⟨fun q => absurd q n1, fun q => absurd q n2, fun q => absurd q n3⟩
section
variable {w : RW}
theorem act_step (hJ : Jm w) {x : ActR} (hA : AK w x) : ST w (m14Step w x).1 ∧ AK (m14Step w x).1 (m14Step w x).2 := by
 unfold m14Step
 refine bif_pc (p := fun r : RW × ActR => ST w r.1 ∧ AK r.1 r.2) (fun _ => ⟨⟨hJ, .rfl' _⟩, hA⟩) (fun _ => ?_)
 refine bif_pc (p := fun r : RW × ActR => ST w r.1 ∧ AK r.1 r.2) (fun h => ?_) (fun h1 => ?_)
 ·have e := beq_iff_eq.mp h
  obtain ⟨q1, q2⟩ := put_step hJ (hA.p e)
  have hk : ∀ (d : Bool) (r : ResR), AK (m11Step w x.place).1 ⟨x.op, x.kind, (m11Step w x.place).2, x.take, x.get, d, r⟩ := fun d r => ⟨fun _ => q2, fun q => absurd (e.symm.trans q) (by decide), fun q => absurd (e.symm.trans q) (by decide)⟩
  exact bif_pc (p := fun r : RW × ActR => ST w r.1 ∧ AK r.1 r.2) (fun _ => ⟨q1, hk _ _⟩) (fun _ => ⟨q1, hk _ _⟩)
 have n1 : x.kind ≠ 1 := fun e => by rw [e] at h1; cases h1
 refine bif_pc (p := fun r : RW × ActR => ST w r.1 ∧ AK r.1 r.2) (fun h => ?_) (fun h2 => ?_)
 ·have e := beq_iff_eq.mp h
  obtain ⟨q1, q2⟩ := take_step hJ (hA.t e)
  have hst : ST w (m12Step w x.take).1 := ⟨q1.j, by rw [q1.b]; exact .rfl' _⟩
  have hk : ∀ (d : Bool) (r : ResR), AK (m12Step w x.take).1 ⟨x.op, x.kind, x.place, (m12Step w x.take).2, x.get, d, r⟩ := fun d r => ⟨fun q => absurd q n1, fun _ => by rw [q1.b]; exact q2, fun q => absurd (e.symm.trans q) (by decide)⟩
  exact bif_pc (p := fun r : RW × ActR => ST w r.1 ∧ AK r.1 r.2) (fun _ => ⟨hst, hk _ _⟩) (fun _ => ⟨hst, hk _ _⟩)
 have n2 : x.kind ≠ 2 := fun e => by rw [e] at h2; cases h2
 refine bif_pc (p := fun r : RW × ActR => ST w r.1 ∧ AK r.1 r.2) (fun h => ?_) (fun h3 => ?_)
 ·have e := beq_iff_eq.mp h
  obtain ⟨q1, q2⟩ := get_step hJ (hA.g e)
  have hst : ST w (m13Step w x.get).1 := ⟨q1.j, by rw [q1.b]; exact .rfl' _⟩
  have hk : ∀ (d : Bool) (r : ResR), AK (m13Step w x.get).1 ⟨x.op, x.kind, x.place, x.take, (m13Step w x.get).2, d, r⟩ := fun d r => ⟨fun q => absurd q n1, fun q => absurd q n2, fun _ => by rw [q1.b]; exact q2⟩
  refine bif_pc (p := fun r : RW × ActR => ST w r.1 ∧ AK r.1 r.2) (fun _ => ?_) (fun _ => ⟨hst, hk _ _⟩)
  exact bif_pc (p := fun r : RW × ActR => ST w r.1 ∧ AK r.1 r.2) (fun _ => ⟨hst, hk _ _⟩) (fun _ => ⟨hst, hk _ _⟩)
 exact ⟨⟨hJ, .rfl' _⟩, ⟨hA.p, hA.t, hA.g⟩⟩
theorem help_step (hJ : Jm w) {x : HelpR} (hH : HK w x) : ST w (m15Step w x).1 ∧ HK (m15Step w x).1 (m15Step w x).2 := by
 unfold m15Step
 refine bif_pc (p := fun r : RW × HelpR => ST w r.1 ∧ HK r.1 r.2) (fun _ => ⟨⟨hJ, .rfl' _⟩, hH⟩) (fun _ => ?_)
 refine bif_pc (p := fun r : RW × HelpR => ST w r.1 ∧ HK r.1 r.2) (fun h => ?_) (fun h1 => ?_)
 ·have e := beq_iff_eq.mp h
  have hst : ST w (m08Ann w x.whom).1 := ⟨hJ.sm (sm_ann _ _), .rfl' _⟩
  have hv : ∀ (a : ActR) (d : Bool), HK (m08Ann w x.whom).1 ⟨x.thread, x.whom, x.phase, a, d⟩ := fun a d q => absurd (e.symm.trans q) (by decide)
  refine bif_pc (p := fun r : RW × HelpR => ST w r.1 ∧ HK r.1 r.2) (fun _ => ⟨hst, hv _ _⟩) (fun _ => ?_)
  exact bif_pc (p := fun r : RW × HelpR => ST w r.1 ∧ HK r.1 r.2) (fun _ => ⟨hst, fun _ => ak_new _ _ _ _⟩) (fun _ => ⟨hst, hv _ _⟩)
 refine bif_pc (p := fun r : RW × HelpR => ST w r.1 ∧ HK r.1 r.2) (fun h => ?_) (fun _ => ⟨⟨hJ, .rfl' _⟩, hH⟩)
 obtain ⟨q1, q2⟩ := act_step hJ (hH (beq_iff_eq.mp h))
 exact ⟨q1, fun _ => q2⟩
theorem jm_say (hJ : Jm w) (i x : Int) : Jm (m08Say w i x) ∧ (∀ o, wv (m08Say w i x) o = wv w o) := by
 have hc : 0 ≤ w.c.f0 * w.c.f4 := by
  have h1 := hJ.t.i.ok.2.2.2.2.1
  have h2 := hJ.t.t
  rw [← hJ.c, h2]
  omega
 obtain ⟨s1, s2, s3⟩ := say_nw w i x hc
 exact ⟨⟨hJ.t, hJ.c, by rw [s3]; exact hJ.l, fun p hp => by rw [s1]; exact hJ.n p hp, by rw [s1]; exact hJ.h⟩, s2⟩
theorem call_own (hJ : Jm w) {x : CallR} (hp : x.phase = 1) (hA : AK w x.act) : ST w (m16Own w x).1 ∧ CK (m16Own w x).1 (m16Own w x).2 := by
 obtain ⟨q1, q2⟩ := act_step hJ hA
 have key : ∀ r : RW × CallR, (r.1 = (m14Step w x.act).1 ∧ r.2.act = (m14Step w x.act).2 ∧ (r.2.phase = 1 ∨ r.2.phase = 2)) → ST w r.1 ∧ CK r.1 r.2 := fun r ⟨h1, h2, h3⟩ => by
  refine ⟨by rw [h1]; exact q1, ⟨fun q => by omega, fun _ => by rw [h1, h2]; exact q2⟩⟩
 obtain ⟨s1, s2⟩ := jm_say hJ x.thread x.op
 have hst : ST w (m08Say w x.thread x.op) := ⟨s1, .rfl' _⟩
 unfold m16Own
 refine bif_pc (p := fun r : RW × CallR => ST w r.1 ∧ CK r.1 r.2) (fun _ => ?_) (fun _ => ?_)
 ·refine bif_pc (p := fun r : RW × CallR => ST w r.1 ∧ CK r.1 r.2) (fun _ => ⟨hst, ⟨fun q => absurd (hp.symm.trans q) (by decide), fun _ => hA.same (w := w) rfl s2⟩⟩) (fun _ => key _ ?_)
  repeat' (first | exact ⟨rfl, rfl, .inl hp⟩ | exact ⟨rfl, rfl, .inr rfl⟩ | apply bif_p (p := fun r : RW × CallR => r.1 = (m14Step w x.act).1 ∧ r.2.act = (m14Step w x.act).2 ∧ (r.2.phase = 1 ∨ r.2.phase = 2)))
 ·refine key _ ?_
  repeat' (first | exact ⟨rfl, rfl, .inl hp⟩ | exact ⟨rfl, rfl, .inr rfl⟩ | apply bif_p (p := fun r : RW × CallR => r.1 = (m14Step w x.act).1 ∧ r.2.act = (m14Step w x.act).2 ∧ (r.2.phase = 1 ∨ r.2.phase = 2)))
theorem call_step (hJ : Jm w) {x : CallR} (hC : x.done = false → CK w x) : ST w (m16Step w x).1 ∧ ((m16Step w x).2.done = false → CK (m16Step w x).1 (m16Step w x).2) := by
 unfold m16Step
 refine bif_pc (p := fun r : RW × CallR => ST w r.1 ∧ (r.2.done = false → CK r.1 r.2)) (fun h => ⟨⟨hJ, .rfl' _⟩, fun q => absurd (h.symm.trans q) (by decide)⟩) (fun hd => ?_)
 have hC := hC hd
 refine bif_pc (p := fun r : RW × CallR => ST w r.1 ∧ (r.2.done = false → CK r.1 r.2)) (fun h => ?_) (fun h0 => ?_)
 ·have e := beq_iff_eq.mp h
  obtain ⟨q1, q2⟩ := help_step hJ (hC.h e)
  refine bif_pc (p := fun r : RW × CallR => ST w r.1 ∧ (r.2.done = false → CK r.1 r.2)) (fun _ => ⟨q1, fun _ => ⟨fun q => absurd q (by decide : ¬ (1 : Int) = 0), fun _ => ak_new _ _ _ _⟩⟩) (fun _ => ⟨q1, fun _ => ⟨fun _ => q2, fun q => absurd (e.symm.trans q) (by decide)⟩⟩)
 refine bif_pc (p := fun r : RW × CallR => ST w r.1 ∧ (r.2.done = false → CK r.1 r.2)) (fun h => ?_) (fun _ => ?_)
 ·obtain ⟨q1, q2⟩ := call_own hJ (beq_iff_eq.mp h) (hC.a (beq_iff_eq.mp h))
  exact ⟨q1, fun _ => q2⟩
 refine bif_pc (p := fun r : RW × CallR => ST w r.1 ∧ (r.2.done = false → CK r.1 r.2)) (fun _ => ⟨⟨(jm_say hJ _ _).1, .rfl' _⟩, fun q => by cases q⟩) (fun _ => ⟨⟨hJ, .rfl' _⟩, fun q => by cases q⟩)
theorem beg_nodes (b : RB) (n : Int) (x : S48) : (begR b n x).1.nodes = b.nodes ∧ (begR b n x).1.c = b.c := by
 unfold begR
 repeat' split
 all_goals exact ⟨rfl, rfl⟩
theorem jm_begin (hJ : Jm w) (n : Int) (x : S48) : ST w (RW.mk w.c w.ws w.st (m07Begin w.b n x).1) := by
 have hinv := inv_m07Begin hJ.t.i n x
 rw [m07Begin_eq hJ.t.i] at hinv ⊢
 obtain ⟨b1, b2⟩ := beg_nodes w.b n x
 have hg := gr_beg w.b n x
 have hnv : ∀ p, nv (RW.mk w.c w.ws w.st (begR w.b n x).1) p = nv w p := fun p => by rw [nv_cv, nv_cv]
 have hmd : ∀ p, NdM (begR w.b n x).1 p → NdM w.b p := fun p hp => by unfold NdM at *; rw [b1] at hp; exact hp
 refine ⟨⟨⟨hinv, by rw [b2]; exact hJ.t.t, by rw [b2]; exact hJ.t.u, by rw [b2]; exact hJ.t.f⟩, by rw [b2]; exact hJ.c, hJ.l, fun p hp => ?_, ?_⟩, hg⟩
 ·rw [hnv]
  exact hg.nxok hJ.t.i (hmd p hp) (hJ.n p (hmd p hp))
 ·rw [hnv]
  obtain ⟨y, y1, y2⟩ := hJ.h
  exact ⟨y, y1, y2.imp id hg.md⟩
theorem call_new (hJ : Jm w) (t n : Int) (x : S48) : ST w (m16New w t n x).1 ∧ CK (m16New w t n x).1 (m16New w t n x).2 := by
 have hst := jm_begin hJ t x
 unfold m16New
 repeat' (first | exact ⟨⟨hJ, .rfl' _⟩, ⟨fun _ q => absurd q (by decide : ¬ (0 : Int) = 1), fun q => absurd q (by decide : ¬ (0 : Int) = 1)⟩⟩ | exact ⟨hst, ⟨fun _ q => absurd q (by decide : ¬ (0 : Int) = 1), fun q => absurd q (by decide : ¬ (0 : Int) = 1)⟩⟩ | apply bif_p (p := fun r : RW × CallR => ST w r.1 ∧ CK r.1 r.2))
structure SI (b : RB) (x : ScR) (s : Int) : Prop where
 a : x.done = false → x.bucket = 0 ∧ (x.phase = 0 ∧ s = 0 ∨ x.phase = 1 ∧ NdM b x.node ∧ s + 2 * (cnt b x.node : Int) ≤ 1 + 2 * (b.nodes.length : Int) ∨ x.phase = 2 ∧ NdM b x.node ∧ NxOk b x.node x.next ∧ s + 2 * (cnt b x.node : Int) ≤ 2 + 2 * (b.nodes.length : Int))
 d : s ≤ 1 + 2 * (b.nodes.length : Int)
theorem scan_arr {v : RW} (hb : v.b = w.b) (hJ : Jm v) {x : ScR} {s : Int} (hB : x.bucket = 0) (hd : x.done = false) (hn : x.node = 0 ∨ (NdM w.b x.node ∧ s + 2 * (cnt w.b x.node : Int) ≤ 1 + 2 * (w.b.nodes.length : Int))) (hs : s ≤ 1 + 2 * (w.b.nodes.length : Int)) : SI w.b (m18Arrive v x) s := by
 have e1 : (IntKind.i64.wrap (x.bucket + 1) == v.c.f1) = true := by
  rw [hB, ← hJ.c, hJ.t.u]; rfl
 unfold m18Arrive
 rw [e1]
 refine bif_pc (p := fun r : ScR => SI w.b r s) (fun h => ?_) (fun _ => ⟨fun q => (by cases q), hs⟩)
 have hn0 : x.node ≠ 0 := fun e => by rw [e] at h; cases h
 have hn' := hn.resolve_left hn0
 refine bif_pc (p := fun r : ScR => SI w.b r s) (fun _ => ⟨fun _ => ⟨hB, .inr (.inl ⟨rfl, hn'⟩)⟩, hs⟩) (fun _ => ⟨fun q => (by cases q), hs⟩)
theorem scan_step (hJ : Jm w) {x : ScR} {s : Int} (hS : SI w.b x s) (hd : x.done = false) : SB' w (m18Step w x).1 ∧ SI w.b (m18Step w x).2 (s + 1) := by
 obtain ⟨hB, hc⟩ := hS.a hd
 rcases hc with ⟨hp, h1⟩ | ⟨hp, h1, h2⟩ | ⟨hp, h1, h2, h3⟩
 ·have e : m18Step w x = ((m08Next w (lHead w.c x.bucket)).1, (m18Arrive ((m08Next w (lHead w.c x.bucket)).1) (ScR.mk x.call x.phase x.bucket (pIndex (nv w (lHead w.c x.bucket))) x.next x.done x.err x.rdone x.rval))) := by unfold m18Step; rw [hd, hp]; rfl
  rw [e]
  have hs := sm_next w (lHead w.c x.bucket)
  have hl : lHead w.c x.bucket = 1 := by
   unfold lHead
   have hk : OkC w.c := by rw [← hJ.c]; exact hJ.t.i.ok
   have hu := hJ.t.u
   rw [hJ.c] at hu
   rw [if_pos ⟨hk, by omega, by omega⟩, hB]
   rfl
  refine ⟨⟨hJ.sm hs, rfl⟩, scan_arr (w := w) (v := (m08Next w (lHead w.c x.bucket)).1) rfl (hJ.sm hs) hB hd ?_ (by omega)⟩
  rw [hl]
  show pIndex (nv w 1) = 0 ∨ _
  rcases hJ.ix with q | q
  ·exact .inl q
  ·have := cnt_le w.b (pIndex (nv w 1))
   exact .inr ⟨q, by show s + 1 + 2 * (cnt w.b (pIndex (nv w 1)) : Int) ≤ _; omega⟩
 ·have e : m18Step w x = ((m08Next w x.node).1, (ScR.mk x.call 2 x.bucket x.node (nv w x.node) x.done x.err x.rdone x.rval)) := by unfold m18Step; rw [hd, hp]; rfl
  rw [e]
  have hs := sm_next w x.node
  have := cnt_pos h1
  exact ⟨⟨hJ.sm hs, rfl⟩, ⟨fun _ => ⟨hB, .inr (.inr ⟨rfl, h1, hJ.n _ h1, by show s + 1 + 2 * (cnt w.b x.node : Int) ≤ _; omega⟩)⟩, by omega⟩⟩
 ·have e : m18Step w x = ((m08Word w (carF w.b x.node)).1, (m18Arrive ((m08Word w (carF w.b x.node)).1) (ScR.mk x.call x.phase x.bucket (pIndex x.next) x.next x.done x.err x.rdone x.rval))) := by unfold m18Step; rw [hd, hp]; rfl
  rw [e]
  have hs := sm_word w (carF w.b x.node)
  have h4 := cnt_pos h1
  refine ⟨⟨hJ.sm hs, rfl⟩, scan_arr (w := w) (v := (m08Word w (carF w.b x.node)).1) rfl (hJ.sm hs) hB hd ?_ (by omega)⟩
  show pIndex x.next = 0 ∨ _
  rcases (h2.ix hJ.t).2 with q | q
  ·exact .inl q
  ·have := cnt_lt h1 q.2
   exact .inr ⟨q.1, by show s + 1 + 2 * (cnt w.b (pIndex x.next) : Int) ≤ _; omega⟩
theorem scan_new (hJ : Jm w) (t : Int) (x : S48) : ST w (m18New w t x).1 ∧ SI (m18New w t x).1.b (m18New w t x).2 0 := by
 have hst := jm_begin hJ t x
 unfold m18New
 have hd : ∀ (b : RB) (c : S48) (e : Int) (r : Bool), SI b (ScR.mk c 0 0 0 0 true e r 0) 0 := fun b c e r => ⟨fun q => (by cases q), by omega⟩
 refine bif_p (p := fun r : RW × ScR => ST w r.1 ∧ SI r.1.b r.2 0) ⟨⟨hJ, .rfl' _⟩, hd _ _ _ _⟩ ?_
 refine bif_p (p := fun r : RW × ScR => ST w r.1 ∧ SI r.1.b r.2 0) ⟨hst, hd _ _ _ _⟩ ?_
 refine bif_p (p := fun r : RW × ScR => ST w r.1 ∧ SI r.1.b r.2 0) ⟨hst, hd _ _ _ _⟩ ?_
 refine bif_p (p := fun r : RW × ScR => ST w r.1 ∧ SI r.1.b r.2 0) ⟨hst, hd _ _ _ _⟩ ?_
 exact ⟨hst, ⟨fun _ => ⟨rfl, .inl ⟨rfl, rfl⟩⟩, by omega⟩⟩
end
end Go.Proofs.Ytbhakljebcmocaa.PBoundKeeps
end
section
namespace Go.Proofs.Ytbhakljebcmocaa.PBoundKeeps
open Go.RowKit Go.Proofs.YtbhakljebcmocaaW.PrintWords Go.Proofs.YtbhakljebcmocaaW.PrintLast Go.Proofs.YtbhakljebcmocaaW.PrintMore
set_option linter.unusedVariables false
set_option linter.unusedSimpArgs false
theorem getD_set_i {α : Type} (l : List α) (i k : Nat) (y z : α) : (l.set i y).getD k z = if i = k ∧ i < l.length then y else l.getD k z := by
 by_cases h : i = k
 ·subst h
  by_cases h2 : i < l.length
  ·rw [if_pos ⟨rfl, h2⟩]; exact getD_set_eq h2
  ·rw [if_neg (fun q => h2 q.2), List.set_eq_of_length_le (by omega)]
 ·rw [if_neg (fun q => h q.1), List.getD_eq_getElem?_getD, List.getD_eq_getElem?_getD, List.getElem?_set_ne h]
theorem en_at (l : List EA) (i : Int) (b : Bool) (a e : Int) (dn : Bool) (v : Int) (k : Nat) : ((eaEn l i b a e dn v).getD k zEA).steps = (l.getD k zEA).steps ∧ ((eaEn l i b a e dn v).getD k zEA).call = (l.getD k zEA).call := by
 cases b
 ·exact ⟨rfl, rfl⟩
 ·show ((l.set _ _).getD k zEA).steps = _ ∧ ((l.set _ _).getD k zEA).call = _
  rw [getD_set_i]
  split
  ·rename_i h
   rw [h.1]; exact ⟨rfl, rfl⟩
  ·exact ⟨rfl, rfl⟩
theorem st_at (l : List EA) (i : Int) (b : Bool) (k : Nat) : ((eaSt l i b).getD k zEA).call = (l.getD k zEA).call ∧ ((eaSt l i b).getD k zEA).steps = (if b = true ∧ Int.toNat i = k ∧ Int.toNat i < l.length then IntKind.i64.wrap ((l.getD k zEA).steps + 1) else (l.getD k zEA).steps) := by
 cases b
 ·exact ⟨rfl, by rw [if_neg (fun q => by cases q.1)]; rfl⟩
 ·show ((l.set _ _).getD k zEA).call = _ ∧ ((l.set _ _).getD k zEA).steps = _
  rw [getD_set_i]
  by_cases h : Int.toNat i = k ∧ Int.toNat i < l.length
  ·rw [if_pos h, if_pos ⟨rfl, h⟩, h.1]; exact ⟨rfl, rfl⟩
  ·rw [if_neg h, if_neg (fun q => h q.2)]; exact ⟨rfl, rfl⟩
theorem pk_at (l : List EA) (t : TR) (b : Bool) (a : Int) (k : Nat) : ((pkE l t b a).getD k zEA).call = (l.getD k zEA).call ∧ ((pkE l t b a).getD k zEA).steps = (if b = true ∧ Int.toNat t.event = k ∧ Int.toNat t.event < l.length then IntKind.i64.wrap ((l.getD k zEA).steps + 1) else (l.getD k zEA).steps) := by
 unfold pkE
 rw [(en_at _ _ _ _ _ _ _ k).1, (en_at _ _ _ _ _ _ _ k).1, (en_at _ _ _ _ _ _ _ k).2, (en_at _ _ _ _ _ _ _ k).2]
 exact st_at l t.event b k
def StLe (l : List EA) (m : Int) : Prop := ∀ k, 0 ≤ (l.getD k zEA).steps ∧ (l.getD k zEA).steps ≤ m
theorem getD_app1 (l : List EA) (e : EA) (k : Nat) : (l ++ [e]).getD k zEA = if k = l.length then e else l.getD k zEA := by
 rw [List.getD_eq_getElem?_getD, List.getD_eq_getElem?_getD]
 rcases Nat.lt_trichotomy k l.length with h | h | h
 ·rw [List.getElem?_append_left h, if_neg (by omega)]
 ·subst h; simp
 ·rw [if_neg (by omega), List.getElem?_eq_none (by simp; omega), List.getElem?_eq_none (by omega)]
theorem begin_es (d : AD) (n : Int) : ∃ e : EA, (m20Begin d n).es = d.es ++ [e] ∧ e.steps = 0 ∧ e.call = ((d.ts.getD (Int.toNat n) zTR).prog.getD (Int.toNat (d.ts.getD (Int.toNat n) zTR).next) zCall) := by
 unfold m20Begin m20Thread
 exact bif_p (p := fun r : AD => ∃ e : EA, r.es = d.es ++ [e] ∧ e.steps = 0 ∧ e.call = ((d.ts.getD (Int.toNat n) zTR).prog.getD (Int.toNat (d.ts.getD (Int.toNat n) zTR).next) zCall)) ⟨_, rfl, rfl, rfl⟩ ⟨_, rfl, rfl, rfl⟩
theorem step_es (d : AD) (n : Int) : (m20Step d n).1.es = d.es := by
 unfold m20Step m20Thread
 exact bif_p (p := fun r : AD × Bool => r.1.es = d.es) rfl rfl
theorem StLe.app {l : List EA} {m : Int} {e : EA} (h : StLe l m) (hm : 0 ≤ m) (he : e.steps = 0) : StLe (l ++ [e]) m := fun k => by
 rw [getD_app1]
 split
 ·rw [he]; omega
 ·exact h k
theorem StLe.pk {l : List EA} {m : Int} (h : StLe l m) (hm : m ≤ 1000000) (t : TR) (b : Bool) (a : Int) : StLe (pkE l t b a) (m + 1) := fun k => by
 rw [(pk_at l t b a k).2]
 have := h k
 split
 ·rw [w64 (by omega) (by omega)]; omega
 ·omega
theorem StLe.pick {d : AD} {m : Int} (h : StLe d.es m) (h0 : 0 ≤ m) (hm : m ≤ 1000000) (n : Int) : StLe (m20Pick d n).1.es (m + 1) := by
 unfold m20Pick
 refine bif_p (p := fun r : AD × Bool => StLe r.1.es (m + 1)) (fun k => by have := h k; show 0 ≤ (d.es.getD k zEA).steps ∧ (d.es.getD k zEA).steps ≤ m + 1; omega) ?_
 show StLe (pkE (m20Step (m20P1 d n) n).1.es _ _ _) (m + 1)
 rw [step_es]
 refine StLe.pk ?_ hm _ _ _
 unfold m20P1
 refine bif_p (p := fun r : AD => StLe r.es m) ?_ h
 obtain ⟨e, e1, e2, _⟩ := begin_es d n
 rw [e1]
 exact h.app h0 e2
theorem StLe.run : ∀ (l : List Int) {d : AD} {m : Int}, StLe d.es m → 0 ≤ m → m + l.length ≤ 1000000 → StLe (m20Pk d l).es (m + l.length)
 | [], d, m, h, _, _ => by simpa [m20Pk] using h
 | n :: r, d, m, h, h0, hm => by
  have hl : ((n :: r).length : Int) = (r.length : Int) + 1 := by simp
  have := StLe.run r (h.pick h0 (by omega) n) (by omega) (by omega)
  rw [hl, show m + ((r.length : Int) + 1) = m + 1 + r.length by omega]
  exact this
def t0 (d : AD) : TR := d.ts.getD 0 zTR
structure DI (d : AD) : Prop where
 j : Jm d.w
 tl : d.ts.length = 1
 g : (t0 d).going = 0 ∨ (t0 d).going = 1 ∨ (t0 d).going = 2
 e0 : (t0 d).going ≠ 0 → 0 ≤ (t0 d).event ∧ (t0 d).event < (d.es.length : Int)
 c : (t0 d).going = 1 → (t0 d).call.done = false → CK d.w (t0 d).call
 c4 : (t0 d).going = 1 → (d.es.getD (Int.toNat (t0 d).event) zEA).call.f0 ≠ 4
 s : (t0 d).going = 2 → SI d.w.b (t0 d).scan (d.es.getD (Int.toNat (t0 d).event) zEA).steps
 e4 : ∀ k, (d.es.getD k zEA).call.f0 = 4 → (d.es.getD k zEA).steps ≤ 33
theorem di_begin {d : AD} (h : DI d) (hst : ∀ k, 0 ≤ (d.es.getD k zEA).steps) : DI (m20Begin d 0) ∧ (t0 (m20Begin d 0)).going ≠ 0 := by
 have hl : (0 : Nat) < d.ts.length := by rw [h.tl]; decide
 have key : ∀ (w : RW) (t : TR) (e : EA), Jm w → (t.going = 1 ∨ t.going = 2) → t.event = (d.es.length : Int) → e.steps = 0 → (t.going = 1 → CK w t.call ∧ e.call.f0 ≠ 4) → (t.going = 2 → SI w.b t.scan 0) → DI (m20Thread (AD.mk w d.ts (d.es ++ [e]) d.time) 0 t) ∧ (t0 (m20Thread (AD.mk w d.ts (d.es ++ [e]) d.time) 0 t)).going ≠ 0 := fun w t e h1 h2 h3 h4 h5 h6 => by
  have et : t0 (m20Thread (AD.mk w d.ts (d.es ++ [e]) d.time) 0 t) = t := by
   show (d.ts.set (Int.toNat 0) t).getD 0 zTR = t
   exact getD_set_eq hl
  have ee : (d.es ++ [e]).getD (Int.toNat t.event) zEA = e := by
   rw [h3, getD_app1, if_pos (by omega)]
  refine ⟨⟨h1, by show (d.ts.set _ _).length = 1; rw [List.length_set]; exact h.tl, by rw [et]; exact .inr h2, fun _ => ?_, fun q _ => ?_, fun q => ?_, fun q => ?_, fun k hk => ?_⟩, by rw [et]; omega⟩
  ·rw [et, h3]
   show 0 ≤ _ ∧ _ < (((d.es ++ [e]).length : Nat) : Int)
   rw [List.length_append, List.length_singleton]
   omega
  ·rw [et] at q ⊢; exact (h5 q).1
  ·rw [et] at q ⊢
   show ((d.es ++ [e]).getD _ zEA).call.f0 ≠ 4
   rw [ee]; exact (h5 q).2
  ·rw [et] at q ⊢
   show SI w.b t.scan ((d.es ++ [e]).getD _ zEA).steps
   rw [ee, h4]; exact h6 q
  ·have hk' : ((d.es ++ [e]).getD k zEA).call.f0 = 4 := hk
   show ((d.es ++ [e]).getD k zEA).steps ≤ 33
   rw [getD_app1] at hk' ⊢
   split
   ·rw [h4]; decide
   ·rename_i hne
    rw [if_neg hne] at hk'
    exact h.e4 k hk'
 unfold m20Begin
 refine bif_pc (p := fun r : AD => DI r ∧ (t0 r).going ≠ 0) (fun _ => ?_) (fun hk => ?_)
 ·obtain ⟨q1, q2⟩ := scan_new h.j 0 ((d.ts.getD (Int.toNat 0) zTR).prog.getD (Int.toNat (d.ts.getD (Int.toNat 0) zTR).next) zCall)
  exact key _ _ _ q1.j (.inr rfl) rfl rfl (fun q => absurd q (by decide : ¬ (2 : Int) = 1)) (fun _ => q2)
 ·obtain ⟨q1, q2⟩ := call_new h.j 0 (d.ts.getD (Int.toNat 0) zTR).whom ((d.ts.getD (Int.toNat 0) zTR).prog.getD (Int.toNat (d.ts.getD (Int.toNat 0) zTR).next) zCall)
  refine key _ _ _ q1.j (.inl rfl) rfl rfl (fun _ => ⟨q2, fun e => ?_⟩) (fun q => absurd q (by decide : ¬ (1 : Int) = 2))
  have e' : ((d.ts.getD (Int.toNat 0) zTR).prog.getD (Int.toNat (d.ts.getD (Int.toNat 0) zTR).next) zCall).f0 = 4 := e
  rw [e'] at hk; cases hk
theorem di_fin {d : AD} (h : DI d) (hg : (t0 d).going ≠ 0) (hst : StLe d.es 1000000) (a tm : Int) :
    DI (AD.mk (m20Step d 0).1.w ((m20Step d 0).1.ts.set (Int.toNat 0) (thEn (pkU (pkT (m20Step d 0) 0)) (pkb2 (pkU (pkT (m20Step d 0) 0))))) (pkE (m20Step d 0).1.es (pkT (m20Step d 0) 0) (m20Step d 0).2 a) tm) := by
  have hl : (0 : Nat) < d.ts.length := by rw [h.tl]; decide
  have hlen := h.j.t.len
  -- what the step leaves
  have key : ∀ (w : RW) (t : TR) (st : Bool), Jm w → t.going = (t0 d).going → t.event = (t0 d).event → (t.going = 1 → t.call.done = false → CK w t.call) → (t.going = 2 → SI w.b t.scan (if st = true then (d.es.getD (Int.toNat (t0 d).event) zEA).steps + 1 else (d.es.getD (Int.toNat (t0 d).event) zEA).steps)) →
      (fun r : AD × Bool => DI (AD.mk r.1.w (r.1.ts.set (Int.toNat 0) (thEn (pkU (pkT r 0)) (pkb2 (pkU (pkT r 0))))) (pkE r.1.es (pkT r 0) r.2 a) tm)) (m20Thread (AD.mk w d.ts d.es d.time) 0 t, st) := fun w t st h1 h2 h3 h4 h5 => by
    have et : pkT (m20Thread (AD.mk w d.ts d.es d.time) 0 t, st) 0 = t := by
      show (d.ts.set (Int.toNat 0) t).getD (Int.toNat 0) zTR = t
      exact getD_set_eq hl
    show DI (AD.mk w ((d.ts.set (Int.toNat 0) t).set (Int.toNat 0) (thEn (pkU (pkT (m20Thread (AD.mk w d.ts d.es d.time) 0 t, st) 0)) (pkb2 (pkU (pkT (m20Thread (AD.mk w d.ts d.es d.time) 0 t, st) 0))))) (pkE d.es (pkT (m20Thread (AD.mk w d.ts d.es d.time) 0 t, st) 0) st a) tm)
    rw [et]
    have hev := h.e0 hg
    obtain ⟨u, hu⟩ : ∃ u, u = thEn (pkU t) (pkb2 (pkU t)) := ⟨_, rfl⟩
    rw [← hu]
    have hu1 : u.event = t.event := by rw [hu, thEn_ev]; unfold pkU; rw [thEn_ev]
    have hus : u.scan = t.scan := by rw [hu, thEn_sc]; unfold pkU; rw [thEn_sc]
    have huc : ∀ (t : TR) (b : Bool), (thEn t b).call = t.call ∧ ((thEn t b).going = t.going ∨ (thEn t b).going = 0) := fun t b => by cases b; exact ⟨rfl, .inl rfl⟩; exact ⟨rfl, .inr rfl⟩
    have huc1 : u.call = t.call := by rw [hu, (huc _ _).1]; unfold pkU; rw [(huc _ _).1]
    have hug : u.going = t.going ∨ u.going = 0 := by
      rw [hu]
      rcases (huc (pkU t) (pkb2 (pkU t))).2 with q | q
      · rw [q]; unfold pkU; exact (huc _ _).2
      · exact .inr q
    have e0 : t0 (AD.mk w ((d.ts.set (Int.toNat 0) t).set (Int.toNat 0) u) (pkE d.es t st a) tm) = u := by
      show ((d.ts.set (Int.toNat 0) t).set (Int.toNat 0) u).getD 0 zTR = u
      exact getD_set_eq (by rw [List.length_set]; exact hl)
    have hstep : ((pkE d.es t st a).getD (Int.toNat (t0 d).event) zEA).steps = (if st = true then (d.es.getD (Int.toNat (t0 d).event) zEA).steps + 1 else (d.es.getD (Int.toNat (t0 d).event) zEA).steps) := by
      rw [(pk_at _ _ _ _ _).2, h3]
      have hs := hst (Int.toNat (t0 d).event)
      cases st
      · rw [if_neg (fun q => by cases q.1), if_neg (fun q => by cases q)]
      · rw [if_pos ⟨rfl, rfl, by omega⟩, if_pos rfl, w64 (by omega) (by omega)]
    refine ⟨h1, by show ((d.ts.set _ _).set _ _).length = 1; rw [List.length_set, List.length_set]; exact h.tl, ?_, fun q => ?_, fun q r => ?_, fun q => ?_, fun q => ?_, fun k hk => ?_⟩
    · rw [e0]
      have := h.g
      rw [← h2] at this
      rcases hug with q | q
      · rw [q]; exact this
      · exact .inl q
    · rw [e0, hu1, h3]
      show 0 ≤ _ ∧ _ < (((pkE d.es t st a).length : Nat) : Int)
      rw [pkE_len]; exact hev
    · rw [e0] at q r ⊢
      rw [huc1] at r ⊢
      exact h4 (by rcases hug with z | z <;> omega) r
    · rw [e0] at q ⊢
      show ((pkE d.es t st a).getD _ zEA).call.f0 ≠ 4
      rw [(pk_at _ _ _ _ _).1, hu1, h3]
      exact h.c4 (by rcases hug with z | z <;> omega)
    · rw [e0] at q ⊢
      show SI w.b u.scan ((pkE d.es t st a).getD _ zEA).steps
      rw [hus, hu1, h3, hstep]
      exact h5 (by rcases hug with z | z <;> omega)
    · have hk' : ((pkE d.es t st a).getD k zEA).call.f0 = 4 := hk
      show ((pkE d.es t st a).getD k zEA).steps ≤ 33
      rw [(pk_at _ _ _ _ _).1] at hk'
      by_cases e : Int.toNat (t0 d).event = k
      · subst e
        rw [hstep]
        have h6 : t.going = 2 := by
          have hg' := h.g
          rcases hg' with q | q | q
          · exact absurd q hg
          · exact absurd hk' (h.c4 q)
          · rw [h2]; exact q
        have h7 := (h5 h6).d
        have h8 := h1.t.len
        omega
      · rw [(pk_at _ _ _ _ _).2, if_neg (fun q => e (by rw [← h3]; exact q.2.1))]
        exact h.e4 k hk'
  have e00 : d.ts.getD (Int.toNat 0) zTR = t0 d := rfl
  unfold m20Step
  rw [e00]
  refine bif_pc (p := fun r : AD × Bool => DI (AD.mk r.1.w (r.1.ts.set (Int.toNat 0) (thEn (pkU (pkT r 0)) (pkb2 (pkU (pkT r 0))))) (pkE r.1.es (pkT r 0) r.2 a) tm)) (fun h2 => ?_) (fun h2 => ?_)
  · have hg2 := beq_iff_eq.mp h2
    have hS := h.s hg2
    cases hd : (t0 d).scan.done
    · obtain ⟨q1, q2⟩ := scan_step h.j hS hd
      exact key _ _ _ q1.j rfl rfl (fun q => absurd (hg2.symm.trans q) (by decide)) (fun _ => by rw [q1.b]; exact q2)
    · have e : m18Step d.w (t0 d).scan = (d.w, (t0 d).scan) := by unfold m18Step; rw [hd]; rfl
      rw [e]
      exact key _ _ _ h.j rfl rfl (fun q => absurd (hg2.symm.trans q) (by decide)) (fun _ => hS)
  · have hn2 : (t0 d).going ≠ 2 := fun e => by rw [e] at h2; cases h2
    have hg1 : (t0 d).going = 1 := by have := h.g; omega
    obtain ⟨q1, q2⟩ := call_step h.j (h.c hg1)
    exact key _ _ _ q1.j rfl rfl (fun _ => q2) (fun q => absurd q hn2)
theorem di_pick {d : AD} (h : DI d) (hst : StLe d.es 999999) (n : Int) : DI (m20Pick d n).1 := by
 unfold m20Pick
 refine bif_pc (p := fun r : AD × Bool => DI r.1) (fun _ => ⟨h.j, h.tl, h.g, h.e0, h.c, h.c4, h.s, h.e4⟩) (fun ho => ?_)
 have hn := out_n ho
 rw [h.tl] at hn
 obtain rfl : n = 0 := by omega
 have h1 : DI (m20P1 d 0) ∧ (t0 (m20P1 d 0)).going ≠ 0 ∧ StLe (m20P1 d 0).es 1000000 := by
  have hst' : StLe d.es 1000000 := fun k => by have := hst k; omega
  unfold m20P1
  refine bif_pc (p := fun r : AD => DI r ∧ (t0 r).going ≠ 0 ∧ StLe r.es 1000000) (fun _ => ?_) (fun hg => ?_)
  ·obtain ⟨q1, q2⟩ := di_begin h (fun k => (hst k).1)
   obtain ⟨e, e1, e2, _⟩ := begin_es d 0
   exact ⟨q1, q2, by rw [e1]; exact hst'.app (by decide) e2⟩
  ·refine ⟨h, fun e => ?_, hst'⟩
   have e' : (d.ts.getD (Int.toNat 0) zTR).going = 0 := e
   rw [e'] at hg; cases hg
 exact di_fin h1.1 h1.2.1 h1.2.2 _ _
theorem di_run : ∀ (l : List Int) {d : AD} {m : Int}, DI d → StLe d.es m → 0 ≤ m → m + l.length ≤ 999999 → DI (m20Pk d l)
 | [], d, m, h, _, _, _ => h
 | n :: r, d, m, h, hs, h0, hm => by
  have hl : ((n :: r).length : Int) = (r.length : Int) + 1 := by simp
  exact di_run r (di_pick h (fun k => by have := hs k; omega) n) (hs.pick h0 (by omega) n) (by omega) (by omega)
theorem di_new {c : S23} (hO : OkC c) (ht : c.f0 = 1) (hu : c.f1 = 1) (hf : c.f4 ≤ 8) (g : List (List S48)) : DI (m20New c g).1 := by
 have hws : ∃ k, (m20New c g).1.w.ws = List.replicate k 0 ∧ (k : Int) = lLen c := by
  show ∃ k, (m06New (lLen c)).ws = List.replicate k 0 ∧ (k : Int) = lLen c
  have hb := (lLen_le hO)
  unfold m06New
  rw [decide_eq_false (show ¬ lLen c < 0 by unfold lLen; rw [if_pos hO, ht, hu]; have := hO.2.2.2.2; omega), decide_eq_false (show ¬ lLen c > 1048576 by have := hb.2; omega)]
  exact ⟨(lLen c).toNat, rfl, by unfold lLen; rw [if_pos hO, ht, hu]; have := hO.2.2.2.2; omega⟩
 obtain ⟨k, hk1, hk2⟩ := hws
 have hcv : ∀ i, cv (m20New c g).1.w.ws i = 0 := fun i => by
  rw [hk1]
  unfold cv
  refine bif_p (p := fun r : Int => r = 0) rfl (bif_p (p := fun r : Int => r = 0) rfl ?_)
  rcases getD_mem (List.replicate k (0 : Int)) (Int.toNat i) 0 with q | q
  ·exact (List.mem_replicate.mp q).2
  ·exact q
 have hno : ∀ p, ¬ NdM (m20New c g).1.w.b p := fun p hp => by
  obtain ⟨x, hx, _⟩ := md_iff.mp hp
  cases hx
 have et : t0 (m20New c g).1 = nwTR c g 0 := by
  show (nwM c g (Int.toNat c.f0)).getD 0 zTR = _
  rw [ht]; rfl
 refine ⟨⟨⟨(Inv.new c hO), ht, hu, hf⟩, rfl, by rw [hk1, List.length_replicate]; exact hk2, fun p hp => absurd hp (hno p), ⟨0, ?_, .inl rfl⟩⟩, ?_, by rw [et]; exact .inl rfl, fun q => ?_, fun q => ?_, fun q => ?_, fun q => ?_, fun k hk => ?_⟩
 ·rw [nv_cv, hcv]; exact .inl rfl
 ·show (nwM c g (Int.toNat c.f0)).length = 1
  rw [ht]; rfl
 ·rw [et] at q; exact absurd rfl q
 ·rw [et] at q; exact absurd q (by decide : ¬ (0 : Int) = 1)
 ·rw [et] at q; exact absurd q (by decide : ¬ (0 : Int) = 1)
 ·rw [et] at q; exact absurd q (by decide : ¬ (0 : Int) = 2)
 ·exact (by decide : (0 : Int) ≤ 33)
theorem run_steps {c : S23} {g : List (List S48)} {p : List Int} (hC : fewC c = true) (hG : fewG g p = true) : StLe (m20Run c g p).1.es 240 ∧ (c.f0 = 1 → c.f1 = 1 → ∀ k, ((m20Run c g p).1.es.getD k zEA).call.f0 = 4 → ((m20Run c g p).1.es.getD k zEA).steps ≤ 33) ∧ (m20Run c g p).1.es.length ≤ 240 := by
 obtain ⟨hO, h1, h2, h3⟩ := of_decide_eq_true hC
 obtain ⟨g1, g2, g3⟩ := fewG_ok hG
 have hs0 : StLe (m20New c g).1.es 0 := fun k => ⟨Int.le_refl 0, Int.le_refl 0⟩
 refine ⟨fun k => ?_, fun ht hu => ?_, ?_⟩
 ·have := StLe.run p hs0 (Int.le_refl 0) (by omega) k
  show 0 ≤ ((m20Pk (m20New c g).1 p).es.getD k zEA).steps ∧ ((m20Pk (m20New c g).1 p).es.getD k zEA).steps ≤ 240
  omega
 ·exact (di_run p (di_new hO ht hu h3 g) hs0 (Int.le_refl 0) (by omega)).e4
 ·have := (PI.pk p (PI.new hO g3)).2
  have e : (m20New c g).1.es.length = 0 := rfl
  show (m20Pk (m20New c g).1 p).es.length ≤ 240
  omega
end Go.Proofs.Ytbhakljebcmocaa.PBoundKeeps
end
section
namespace Go.Proofs.Ytbhakljebcmocaa.PBoundKeeps
open Go.RowKit Go.Proofs.YtbhakljebcmocaaW.PrintWords Go.Proofs.YtbhakljebcmocaaW.PrintLast Go.Proofs.YtbhakljebcmocaaW.PrintMore
set_option linter.unusedVariables false
set_option linter.unusedSimpArgs false
theorem sum2 (k : Nat) (a b : Int) : bound_sum.f (k + 3) [a, b] = some (wrap64 (wrap64 (0 + a) + b)) := by
 have w1 : wrap64 1 = 1 := by unfold wrap64; decide
 have w2 : wrap64 2 = 2 := by unfold wrap64; decide
 simp [bound_sum.f, bound_sum.l0, rd, w1, w2]
theorem sum3 (k : Nat) (a b c : Int) : bound_sum.f (k + 4) [a, b, c] = some (wrap64 (wrap64 (wrap64 (0 + a) + b) + c)) := by
 have w1 : wrap64 1 = 1 := by unfold wrap64; decide
 have w2 : wrap64 2 = 2 := by unfold wrap64; decide
 have w3 : wrap64 3 = 3 := by unfold wrap64; decide
 simp [bound_sum.f, bound_sum.l0, rd, w1, w2, w3]
theorem sum5 (k : Nat) (a b c d e : Int) : bound_sum.f (k + 6) [a, b, c, d, e] = some (wrap64 (wrap64 (wrap64 (wrap64 (wrap64 (0 + a) + b) + c) + d) + e)) := by
 have w1 : wrap64 1 = 1 := by unfold wrap64; decide
 have w2 : wrap64 2 = 2 := by unfold wrap64; decide
 have w3 : wrap64 3 = 3 := by unfold wrap64; decide
 have w4 : wrap64 4 = 4 := by unfold wrap64; decide
 have w5 : wrap64 5 = 5 := by unfold wrap64; decide
 simp [bound_sum.f, bound_sum.l0, rd, w1, w2, w3, w4, w5]
theorem point_step (k : Nat) (a n m x : Int) (j : Int) (t b i f c : Int) (h : j < 4) : bound_Point.l0 (k + 1) a n m x j t b i f c = bound_Point.l0 k a n m (wrap64 (x * m)) (wrap64 (j + 1)) t b i f c := by
 simp only [bound_Point.l0]
 rw [if_pos h]
theorem point_last (k : Nat) (a n m x : Int) (t b i f c : Int) : bound_Point.l0 (k + 5) a n m x 4 t b i f c = some (wrap64 (wrap64 (0 + f) + wrap64 (x * wrap64 (wrap64 (wrap64 (0 + a) + n) + wrap64 (m * m))))) := by
 simp only [bound_Point.l0]
 rw [if_neg (by decide), sum3 k]
 simp only [Option.bind_some]
 rw [sum2 (k + 1)]
 rfl
def prod (m : Int) : Int := wrap64 (wrap64 (wrap64 (wrap64 (1024 * m) * m) * m) * m)
theorem point_eq (k : Nat) (t b i f c a n : Int) : bound_Point.f (k + 9) t b i f c a n = some (wrap64 (wrap64 (0 + f) + wrap64 (prod (wrap64 (t + 1)) * wrap64 (wrap64 (wrap64 (0 + a) + n) + wrap64 (wrap64 (t + 1) * wrap64 (t + 1)))))) := by
 have w1 : wrap64 (0 + 1) = 1 := by unfold wrap64; decide
 have w2 : wrap64 (1 + 1) = 2 := by unfold wrap64; decide
 have w3 : wrap64 (2 + 1) = 3 := by unfold wrap64; decide
 have w4 : wrap64 (3 + 1) = 4 := by unfold wrap64; decide
 unfold bound_Point.f
 rw [point_step _ _ _ _ _ 0 _ _ _ _ _ (by decide), w1, point_step _ _ _ _ _ 1 _ _ _ _ _ (by decide), w2, point_step _ _ _ _ _ 2 _ _ _ _ _ (by decide), w3, point_step _ _ _ _ _ 3 _ _ _ _ _ (by decide), w4, point_last k]
 rfl
theorem scan_eq (k : Nat) (t b i f c a n : Int) : bound_Scan.f (k + 6) t b i f c a n = some (wrap64 (64 * wrap64 (wrap64 (wrap64 (wrap64 (wrap64 (0 + b) + a) + t) + n) + 1))) := by
 unfold bound_Scan.f
 rw [sum5 k]
 rfl
theorem zero_add_w {x : Int} (h : 0 ≤ x) (h2 : x ≤ 4294967296) : wrap64 (0 + x) = x := by
 rw [Int.zero_add]
 exact wrap64_eq (by omega) (by omega)
theorem prod_bnd {P Q a n : Int} (hP : 1 ≤ P ∧ P ≤ 6718464) (hQ : 1 ≤ Q ∧ Q ≤ 81) (ha : 0 ≤ a ∧ a ≤ 131070) (hn : 0 ≤ n ∧ n ≤ 131070) : 1 ≤ P * (a + n + Q) ∧ P * (a + n + Q) ≤ 6718464 * 262221 := by
 have h1 : 0 < P * (a + n + Q) := Int.mul_pos (by omega) (by omega)
 have h2 : P * (a + n + Q) ≤ 6718464 * 262221 := Int.mul_le_mul hP.2 (by omega) (by omega) (by omega)
 omega
theorem point_val (k : Nat) {t b i f c a n M P Q : Int} (hM : wrap64 (t + 1) = M) (hP : prod M = P) (hQ : wrap64 (M * M) = Q) (hP0 : 1 ≤ P ∧ P ≤ 6718464) (hQ0 : 1 ≤ Q ∧ Q ≤ 81) (hf : 0 ≤ f ∧ f ≤ 65536) (ha : 0 ≤ a ∧ a ≤ 131070) (hn : 0 ≤ n ∧ n ≤ 131070) : bound_Point.f (k + 9) t b i f c a n = some (f + P * (a + n + Q)) := by
 have hb := prod_bnd hP0 hQ0 ha hn
 rw [point_eq, hM, hP, hQ, zero_add_w hf.1 (by omega), zero_add_w ha.1 (by omega), wrap64_eq (n := a + n) (by omega) (by omega), wrap64_eq (n := a + n + Q) (by omega) (by omega), wrap64_eq (n := P * (a + n + Q)) (by omega) (by omega), wrap64_eq (n := f + P * (a + n + Q)) (by omega) (by omega)]
theorem scan_val (k : Nat) {t b i f c a n : Int} (ht : 1 ≤ t ∧ t ≤ 8) (hb : 1 ≤ b ∧ b ≤ 64) (ha : 0 ≤ a ∧ a ≤ 131070) (hn : 0 ≤ n ∧ n ≤ 131070) : bound_Scan.f (k + 6) t b i f c a n = some (64 * (b + a + t + n + 1)) := by
 rw [scan_eq, zero_add_w (by omega) (by omega), wrap64_eq (n := b + a) (by omega) (by omega), wrap64_eq (n := b + a + t) (by omega) (by omega), wrap64_eq (n := b + a + t + n) (by omega) (by omega), wrap64_eq (n := b + a + t + n + 1) (by omega) (by omega), wrap64_eq (by omega) (by omega)]
def cN (p : S54 → Bool) : List S54 → Int
 | [] => 0
 | x :: t => (if p x = true then 1 else 0) + cN p t
theorem cN_bnd (p : S54 → Bool) (l : List S54) : 0 ≤ cN p l ∧ cN p l ≤ l.length := by
 induction l with
 | nil => exact ⟨Int.le_refl _, Int.le_refl _⟩
 | cons x t ih =>
  simp only [cN, List.length_cons]
  split <;> omega
theorem rd_at (l : List S54) (i : Nat) (h : i < l.length) : l.drop i = rd_T54 l (i : Int) :: l.drop (i + 1) := by
 rw [List.drop_eq_getElem_cons h]
 unfold rd_T54
 simp [List.getD, h]
theorem cast_succ (i : Nat) (h : i < 4000000) : wrap64 ((i : Int) + 1) = ((i + 1 : Nat) : Int) := by
 rw [wrap64_eq (by omega) (by omega)]
 omega
theorem history_Size_c1_eq (kd at_ : Int) (l : List S54) (hl : l.length ≤ 1000000) : ∀ (d i : Nat) (n : Int) (k : Nat), l.length - i = d → i ≤ l.length → 0 ≤ n → n + d ≤ 2000000 → d < k → history_Size_c1.l0 kd at_ k l (i : Int) n = some (n + cN (fun x => history_Size11.f x kd at_) (l.drop i)) := by
 intro d
 induction d with
 | zero =>
  intro i n k hd hi hn hb hk
  obtain ⟨k, rfl⟩ : ∃ q, k = q + 1 := ⟨k - 1, by omega⟩
  simp only [history_Size_c1.l0]
  rw [if_neg (by omega), List.drop_eq_nil_of_le (by omega)]
  simp [cN]
 | succ d ih =>
  intro i n k hd hi hn hb hk
  obtain ⟨k, rfl⟩ : ∃ q, k = q + 1 := ⟨k - 1, by omega⟩
  simp only [history_Size_c1.l0]
  rw [if_pos (by omega), if_pos (by omega), rd_at l i (by omega), cast_succ i (by omega)]
  simp only [cN]
  by_cases c : history_Size11.f (rd_T54 l (i : Int)) kd at_ = true
  ·rw [if_pos c, if_pos c, wrap64_eq (n := n + 1) (by omega) (by omega), ih (i + 1) (n + 1) k (by omega) (by omega) (by omega) (by omega) (by omega)]
   congr 1
   omega
  ·rw [if_neg c, if_neg c, ih (i + 1) n k (by omega) (by omega) (by omega) (by omega) (by omega)]
   congr 1
   omega
theorem history_Size_c2_eq (at_ : Int) (l : List S54) (hl : l.length ≤ 1000000) : ∀ (d i : Nat) (n : Int) (k : Nat), l.length - i = d → i ≤ l.length → 0 ≤ n → n + d ≤ 2000000 → d < k → history_Size_c2.l0 at_ k l (i : Int) n = some (n + cN (fun x => history_Size2.f x at_) (l.drop i)) := by
 intro d
 induction d with
 | zero =>
  intro i n k hd hi hn hb hk
  obtain ⟨k, rfl⟩ : ∃ q, k = q + 1 := ⟨k - 1, by omega⟩
  simp only [history_Size_c2.l0]
  rw [if_neg (by omega), List.drop_eq_nil_of_le (by omega)]
  simp [cN]
 | succ d ih =>
  intro i n k hd hi hn hb hk
  obtain ⟨k, rfl⟩ : ∃ q, k = q + 1 := ⟨k - 1, by omega⟩
  simp only [history_Size_c2.l0]
  rw [if_pos (by omega), if_pos (by omega), rd_at l i (by omega), cast_succ i (by omega)]
  simp only [cN]
  by_cases c : history_Size2.f (rd_T54 l (i : Int)) at_ = true
  ·rw [if_pos c, if_pos c, wrap64_eq (n := n + 1) (by omega) (by omega), ih (i + 1) (n + 1) k (by omega) (by omega) (by omega) (by omega) (by omega)]
   congr 1
   omega
  ·rw [if_neg c, if_neg c, ih (i + 1) n k (by omega) (by omega) (by omega) (by omega) (by omega)]
   congr 1
   omega
def over (x : S54) (a : Int) : Bool := decide (x.f3 ≥ 0 ∧ x.f3 < a)
def gain (a : Int) (x : S54) : Int := (if over x a = true ∧ x.f6.f1 = true ∧ x.f5.f0 = 1 then 1 else 0) - (if over x a = true ∧ x.f6.f1 = true ∧ x.f5.f0 = 2 then 1 else 0) + (if ¬ over x a = true ∧ x.f2 ≤ a then 1 else 0)
def gains (a : Int) : List S54 → Int
 | [] => 0
 | x :: t => gain a x + gains a t
theorem gain_cnt (a : Int) (x : S54) : gain a x = (if history_Size11.f x 1 a = true then (1 : Int) else 0) - (if history_Size11.f x 2 a = true then 1 else 0) + (if history_Size2.f x a = true then 1 else 0) := by
 have e1 : ∀ kd, (history_Size11.f x kd a = true) ↔ (over x a = true ∧ x.f6.f1 = true ∧ x.f5.f0 = kd) := by
  intro kd
  unfold history_Size11.f over
  by_cases h1 : x.f5.f0 = kd
  ·rw [if_pos h1]
   by_cases h2 : x.f6.f1 = true
   ·rw [if_pos h2]
    by_cases h3 : x.f3 ≥ 0
    ·rw [if_pos h3]; simp [h1, h2, h3]
    ·rw [if_neg h3]; simp [h3]
   ·rw [if_neg h2]; simp [h2]
  ·rw [if_neg h1]; simp [h1]
 have e2 : (history_Size2.f x a = true) ↔ (¬ over x a = true ∧ x.f2 ≤ a) := by
  unfold history_Size2.f over
  by_cases h1 : x.f2 ≤ a
  ·rw [if_pos h1]
   by_cases h2 : x.f3 < 0
   ·rw [if_pos h2]; simp [h1]; omega
   ·rw [if_neg h2]; simp [h1]; omega
  ·rw [if_neg h1]; simp [h1]
 unfold gain
 simp only [e1, e2]
theorem gains_cnt (a : Int) (l : List S54) : gains a l = cN (fun x => history_Size11.f x 1 a) l - cN (fun x => history_Size11.f x 2 a) l + cN (fun x => history_Size2.f x a) l := by
 induction l with
 | nil => rfl
 | cons x t ih =>
  simp only [gains, cN, ih, gain_cnt]
  omega
theorem size_eq (k : Nat) (l : List S54) (a : Int) (hl : l.length ≤ 1000000) (hk : l.length < k) : history_Size.f k l a = some (gains a l) := by
 have b1 := cN_bnd (fun x => history_Size11.f x 1 a) l
 have b2 := cN_bnd (fun x => history_Size11.f x 2 a) l
 have b3 := cN_bnd (fun x => history_Size2.f x a) l
 have h2 : history_Size_c2.l0 a k l 0 0 = some (cN (fun x => history_Size2.f x a) l) := by
  have h := history_Size_c2_eq a l hl l.length 0 0 k (by omega) (by omega) (by omega) (by omega) hk
  simpa using h
 have h1 : ∀ kd, history_Size_c1.l0 kd a k l 0 0 = some (cN (fun x => history_Size11.f x kd a) l) := by
  intro kd
  have h := history_Size_c1_eq kd a l hl l.length 0 0 k (by omega) (by omega) (by omega) (by omega) hk
  simpa using h
 unfold history_Size.f
 rw [h2, h1, h1]
 simp only [Option.bind_some]
 rw [gains_cnt]
 generalize cN (fun x => history_Size11.f x 1 a) l = u at b1 ⊢
 generalize cN (fun x => history_Size11.f x 2 a) l = v at b2 ⊢
 generalize cN (fun x => history_Size2.f x a) l = z at b3 ⊢
 rw [wrap64_eq (n := u - v) (by omega) (by omega), wrap64_eq (n := u - v + z) (by omega) (by omega)]
theorem hin_c_eq (e : S54) (l : List S54) (hl : l.length ≤ 1000000) : ∀ (d i : Nat) (n : Int) (k : Nat), l.length - i = d → i ≤ l.length → 0 ≤ n → n + d ≤ 2000000 → d < k → hin_c.l0 e k l (i : Int) n = some (n + cN (fun x => history_Inserts1.f x e) (l.drop i)) := by
 intro d
 induction d with
 | zero =>
  intro i n k hd hi hn hb hk
  obtain ⟨k, rfl⟩ : ∃ q, k = q + 1 := ⟨k - 1, by omega⟩
  simp only [hin_c.l0]
  rw [if_neg (by omega), List.drop_eq_nil_of_le (by omega)]
  simp [cN]
 | succ d ih =>
  intro i n k hd hi hn hb hk
  obtain ⟨k, rfl⟩ : ∃ q, k = q + 1 := ⟨k - 1, by omega⟩
  simp only [hin_c.l0]
  rw [if_pos (by omega), if_pos (by omega), rd_at l i (by omega), cast_succ i (by omega)]
  simp only [cN]
  by_cases c : history_Inserts1.f (rd_T54 l (i : Int)) e = true
  ·rw [if_pos c, if_pos c, wrap64_eq (n := n + 1) (by omega) (by omega), ih (i + 1) (n + 1) k (by omega) (by omega) (by omega) (by omega) (by omega)]
   congr 1
   omega
  ·rw [if_neg c, if_neg c, ih (i + 1) n k (by omega) (by omega) (by omega) (by omega) (by omega)]
   congr 1
   omega
theorem ins (k : Nat) (l : List S54) (e : S54) (hl : l.length ≤ 1000000) (hk : l.length < k) : hin_c.l0 e k l 0 0 = some (cN (fun x => history_Inserts1.f x e) l) := by
 have h := hin_c_eq e l hl l.length 0 0 k (by omega) (by omega) (by omega) (by omega) hk
 rw [show (0 : Int) = ((0 : Nat) : Int) from rfl] at *
 rw [h]
 simp
theorem hM_all {t : Int} (ht : 1 ≤ t ∧ t ≤ 8) : ∃ M P Q : Int, wrap64 (t + 1) = M ∧ prod M = P ∧ wrap64 (M * M) = Q ∧ (16384 ≤ P ∧ P ≤ 6718464) ∧ (1 ≤ Q ∧ Q ≤ 81) := by
 have h : t = 1 ∨ t = 2 ∨ t = 3 ∨ t = 4 ∨ t = 5 ∨ t = 6 ∨ t = 7 ∨ t = 8 := by omega
 rcases h with rfl | rfl | rfl | rfl | rfl | rfl | rfl | rfl
 ·exact ⟨2, 16384, 4, by unfold wrap64; decide, by unfold prod wrap64; decide, by unfold wrap64; decide, by decide, by decide⟩
 ·exact ⟨3, 82944, 9, by unfold wrap64; decide, by unfold prod wrap64; decide, by unfold wrap64; decide, by decide, by decide⟩
 ·exact ⟨4, 262144, 16, by unfold wrap64; decide, by unfold prod wrap64; decide, by unfold wrap64; decide, by decide, by decide⟩
 ·exact ⟨5, 640000, 25, by unfold wrap64; decide, by unfold prod wrap64; decide, by unfold wrap64; decide, by decide, by decide⟩
 ·exact ⟨6, 1327104, 36, by unfold wrap64; decide, by unfold prod wrap64; decide, by unfold wrap64; decide, by decide, by decide⟩
 ·exact ⟨7, 2458624, 49, by unfold wrap64; decide, by unfold prod wrap64; decide, by unfold wrap64; decide, by decide, by decide⟩
 ·exact ⟨8, 4194304, 64, by unfold wrap64; decide, by unfold prod wrap64; decide, by unfold wrap64; decide, by decide, by decide⟩
 ·exact ⟨9, 6718464, 81, by unfold wrap64; decide, by unfold prod wrap64; decide, by unfold wrap64; decide, by decide, by decide⟩
def szn (l : List S54) (e : S54) : Int := if gains e.f2 l < 0 then 0 else gains e.f2 l
def inn (l : List S54) (e : S54) : Int := cN (fun x => history_Inserts1.f x e) l
theorem szn_bnd (l : List S54) (e : S54) (hl : l.length ≤ 240) : 0 ≤ szn l e ∧ szn l e ≤ 1000 := by
 have b1 := cN_bnd (fun x => history_Size11.f x 1 e.f2) l
 have b2 := cN_bnd (fun x => history_Size11.f x 2 e.f2) l
 have b3 := cN_bnd (fun x => history_Size2.f x e.f2) l
 have g := gains_cnt e.f2 l
 unfold szn
 split <;> omega
theorem of_low (k : Nat) {t b i f c : Int} (h : Ok t b i f c) (l : List S54) (hl : l.length ≤ 240) (e : S54) : ∃ v, bound_Of.g (k + 309) t b i f c l e = some v ∧ (e.f5.f0 = 4 → 64 * (b + t + 1) ≤ v) ∧ (e.f5.f0 ≠ 4 → 16384 ≤ v) := by
 have hn := cN_bnd (fun x => history_Inserts1.f x e) l
 have hs := szn_bnd l e hl
 have hb := isPow_le h.2.1
 have hf := h.2.2.2.1
 have e0 : bound_Of.g (k + 309) t b i f c l e = (if e.f5.f0 = 4 then bound_Scan.f (k + 309) t b i f c (szn l e) (inn l e) else bound_Point.f (k + 309) t b i f c (szn l e) (inn l e)) := by
  unfold bound_Of.g szn inn
  rw [size_eq (k + 309) l e.f2 (by omega) (by omega), ins (k + 309) l e (by omega) (by omega)]
  rfl
 rw [e0]
 have hin : 0 ≤ inn l e ∧ inn l e ≤ 240 := by unfold inn; omega
 by_cases c4 : e.f5.f0 = 4
 ·rw [if_pos c4, scan_val (k + 303) h.1 hb ⟨hs.1, by omega⟩ ⟨hin.1, by omega⟩]
  exact ⟨_, rfl, fun _ => by omega, fun q => absurd c4 q⟩
 ·rw [if_neg c4]
  obtain ⟨M, P, Q, hM, hP, hQ, hP0, hQ0⟩ := hM_all h.1
  rw [point_val (k + 300) hM hP hQ ⟨by omega, hP0.2⟩ hQ0 hf ⟨hs.1, by omega⟩ ⟨hin.1, by omega⟩]
  have h3 : 16384 * 1 ≤ P * (szn l e + inn l e + Q) := Int.mul_le_mul hP0.1 (by omega) (by decide) (by omega)
  exact ⟨_, rfl, fun q => absurd q c4, fun _ => by omega⟩
theorem okl_step (k : Nat) (t b i f c : Int) (l1 : List S54) (j : Int) : bound_Ok.l0 (k + 1) t b i f c l1 j = if j < (l1.length : Int) then (if 0 ≤ j then ((bound_Of.g k t b i f c l1 (rd_T54 l1 j)).bind fun q => if (rd_T54 l1 j).f4 > q then some false else bound_Ok.l0 k t b i f c l1 (wrap64 (j + 1))) else none) else some true := rfl
theorem ok_at {t b i f c : Int} (h : Ok t b i f c) (l : List S54) (hl : l.length ≤ 240) (hs : ∀ x, x ∈ l → (x.f5.f0 = 4 → x.f4 ≤ 64 * (b + t + 1)) ∧ (x.f5.f0 ≠ 4 → x.f4 ≤ 16384)) : ∀ (d j k : Nat), l.length - j = d → j ≤ l.length → bound_Ok.l0 (k + 310 + d) t b i f c l (j : Int) = some true := by
 intro d
 induction d with
 | zero =>
  intro j k hd hj
  rw [show k + 310 + 0 = (k + 309) + 1 from rfl, okl_step, if_neg (by omega)]
 | succ d ih =>
  intro j k hd hj
  rw [show k + 310 + (d + 1) = (k + 310 + d) + 1 from rfl, okl_step]
  have hjl : j < l.length := by omega
  obtain ⟨v, hv, h1, h2⟩ := of_low (k + 1 + d) h l hl (rd_T54 l (j : Int))
  rw [show k + 1 + d + 309 = k + 310 + d from by omega] at hv
  rw [if_pos (by omega), if_pos (by omega), hv]
  simp only [Option.bind_some]
  have hm : rd_T54 l (j : Int) ∈ l := by
   have e := rd_at l j hjl
   rw [List.drop_eq_getElem_cons hjl] at e
   have e2 := (List.cons.inj e).1
   rw [← e2]; exact List.getElem_mem hjl
  have h3 := hs _ hm
  rw [if_neg (by
   by_cases c4 : (rd_T54 l (j : Int)).f5.f0 = 4
   ·have := h1 c4; have := h3.1 c4; omega
   ·have := h2 c4; have := h3.2 c4; omega), cast_succ j (by omega), ih (j + 1) k (by omega) (by omega)]
theorem ok_true {t b i f c : Int} (h : Ok t b i f c) (l : List S54) (hl : l.length ≤ 240) (hs : ∀ x, x ∈ l → (x.f5.f0 = 4 → x.f4 ≤ 64 * (b + t + 1)) ∧ (x.f5.f0 ≠ 4 → x.f4 ≤ 16384)) : ∃ k, bound_Ok.f k t b i f c l = some true := ⟨0 + 310 + l.length, ok_at h l hl hs l.length 0 0 (by omega) (by omega)⟩
end Go.Proofs.Ytbhakljebcmocaa.PBoundKeeps
end
section
namespace Go.Proofs.Ytbhakljebcmocaa.PBoundKeeps
open Go.RowKit Go.Proofs.YtbhakljebcmocaaW.PrintWords Go.Proofs.YtbhakljebcmocaaW.PrintLast Go.Proofs.YtbhakljebcmocaaW.PrintMore
set_option linter.unusedVariables false
set_option linter.unusedSimpArgs false
theorem keeps {c : S23} {g : List (List S48)} {p : List Int} (hC : fewC c = true) (hG : fewG g p = true) (l : List EV) (hl : l.map EV.e = (m20Run c g p).1.es) : ∃ k, bound_Ok.f k c.f0 c.f1 c.f2 c.f3 c.f4 (l.map ev54) = some true := by
 obtain ⟨hO, h1, h2, h3⟩ := of_decide_eq_true hC
 obtain ⟨s1, s2, s3⟩ := run_steps hC hG
 have hlen : l.length = (m20Run c g p).1.es.length := by rw [← hl, List.length_map]
 refine ok_true hO (l.map ev54) (by rw [List.length_map]; omega) (fun x hx => ?_)
 obtain ⟨y, hy, rfl⟩ := List.mem_map.mp hx
 obtain ⟨k, hk⟩ := List.mem_iff_getElem?.mp hy
 have hke : (m20Run c g p).1.es.getD k zEA = y.e := by
  rw [← hl, List.getD_eq_getElem?_getD, List.getElem?_map, hk]; rfl
 have q1 := s1 k
 rw [hke] at q1
 have hb := isPow_le hO.2.1
 have ht := hO.1
 refine ⟨fun h4 => ?_, fun _ => ?_⟩
 ·show y.e.steps ≤ 64 * (c.f1 + c.f0 + 1)
  by_cases hq : c.f0 = 1 ∧ c.f1 = 1
  ·have q2 := s2 hq.1 hq.2 k
   rw [hke] at q2
   have := q2 h4
   omega
  ·omega
 ·show y.e.steps ≤ 16384
  omega
end Go.Proofs.Ytbhakljebcmocaa.PBoundKeeps
end
section
namespace Go.Proofs.Ytbhakljebcmocaa.PBoundKeeps
open Go.RowKit Go.Proofs.YtbhakljebcmocaaW.PrintWords Go.Proofs.YtbhakljebcmocaaW.PrintLast Go.Proofs.YtbhakljebcmocaaW.PrintMore
set_option linter.unusedVariables false
set_option linter.unusedSimpArgs false
theorem corrielaw23_BoundKeeps.calls (a0_0 a0_1 a0_2 a0_3 a0_4 : Int) (A1 : Option Addr) (c1 : Nat) (l1 : List (List S48)) (A2 : Option Addr) (c2 : Nat) (l2 : List Int) (r : Bool) (w : World) (hr1 : Kd.C (Kd.slice 48 k48) w A1 l1.length l1) (hc1 : l1.length ≤ c1) (hr2 : Kd.C (Kd.int .i64) w A2 l2.length l2) (hc2 : l2.length ≤ c2) (h : corrielaw23_BoundKeeps.f a0_0 a0_1 a0_2 a0_3 a0_4 l1 l2 = some r) :
    Calls Try.prog 3 #[.agg #[.int .i64 a0_0, .int .i64 a0_1, .int .i64 a0_2, .int .i64 a0_3, .int .i64 a0_4], .slice A1 l1.length c1, .slice A2 l2.length c2] w fun e w' => e = .returned (.bool r) ∧ Below w.heap.size w w' := by
  obtain rfl := Option.some.inj h
  cases hC : fewC ⟨a0_0, a0_1, a0_2, a0_3, a0_4⟩
  · exact kLawF1 ⟨a0_0, a0_1, a0_2, a0_3, a0_4⟩ A1 c1 l1 A2 c2 l2 w hr1 hc1 hr2 hc2 hC
  cases hG : fewG l1 l2
  · exact kLawF2 ⟨a0_0, a0_1, a0_2, a0_3, a0_4⟩ A1 c1 l1 A2 c2 l2 w hr1 hc1 hr2 hc2 hC hG
  obtain ⟨g1, g2, g3⟩ := fewG_ok hG
  obtain ⟨l, hl, hA⟩ := G_of hr1 hc1 g1 g3
  have hK := K_of hr2 hc2 (by omega)
  rw [← hl]
  by_cases hg : (l.length : Int) ≤ a0_0
  · exact kLawT ⟨a0_0, a0_1, a0_2, a0_3, a0_4⟩ l1 (GX.mk A1 c1 l) l2 (IX.mk A2 c2) hC hG hg (fun q hq => keeps hC hG q hq) w hA hK
  · exact kLawX ⟨a0_0, a0_1, a0_2, a0_3, a0_4⟩ l1 (GX.mk A1 c1 l) l2 (IX.mk A2 c2) hC hG (Int.not_le.mp hg) w hA hK
end Go.Proofs.Ytbhakljebcmocaa.PBoundKeeps
end
