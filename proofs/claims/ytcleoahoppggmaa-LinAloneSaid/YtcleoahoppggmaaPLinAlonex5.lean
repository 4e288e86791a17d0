-- Written by a program of this session: a variant of the print that takes proofs by hand (wip/tools/mkprint.py)
import Derived.Test.YtcleoahoppggmaaPLinAlonex0
import Derived.Test.YtcleoahoppggmaaPLinAlonex2
import Derived.Test.YtcleoahoppggmaaPLinAlonex3
import Derived.Test.YtcleoahoppggmaaPLinAlonex4
namespace Go.Proofs.Ytcleoahoppggmaa.PLinAlone
open Go.RowKit Go.Proofs.YtcleoahoppggmaaW.PrintWords Go.Proofs.YtcleoahoppggmaaW.PrintLast Go.Proofs.YtcleoahoppggmaaW.PrintMore
attribute [local go_sem] max2_int min2_int max_two min_two max_three min_three max_four min_four   -- for this text's walks alone
set_option linter.unusedVariables false
set_option linter.unusedSimpArgs false

/-! ### lin_search_next: function 26 (by hand) -/
def tellsP (e : S44) (d : Bool) (v : Int) : Bool := if e.f3 < 0 then true else if (e.f6.f1 == d) = true then e.f6.f2 == v else false
theorem li_tells (e : S44) (A : Option Addr) (c : Nat) (hc : e.f6.f3.length ≤ c) (d : Bool) (v : Int) (W : World) (hr : Kd.C k53 W A e.f6.f3.length e.f6.f3) :
    Calls Try.prog 32 #[.agg #[.int .i64 e.f0, .int .i64 e.f1, .int .i64 e.f2, .int .i64 e.f3, .int .i64 e.f4, .int .i64 e.f5.f0, .int .u64 e.f5.f1, .int .u64 e.f5.f2, .int .i64 e.f5.f3, .int .i64 e.f6.f0, .bool e.f6.f1, .int .u64 e.f6.f2, .slice A e.f6.f3.length c], .agg #[.int .i64 0, .bool d, .int .u64 v, .slice none 0 0]] W fun e' w' => e' = .returned (.bool (tellsP e d v)) ∧ Below W.heap.size W w' :=
  lin_tells.calls (l1_3 := []) (w := W) (hr0_12 := hr) (hc0_12 := hc) (hr1_3 := Kd.C_nil _ _) (hc1_3 := Nat.le_refl _) (h := by
    unfold lin_tells.f tellsP
    split
    · rfl
    · split <;> rfl)
def srch (h : List S44) : Nat → List Nat → List Bool → List S53 → Option (List Nat)
  | 0, _, _, _ => none
  | f + 1, turn, inb, l => if wholeP h inb = true then some turn else (List.range h.length).findSome? fun (n : Nat) =>
      let e := rd_T44 h (n : Int)
      if readyP h inb n = true then (if tellsP e (apD l e.f5.f0 e.f5.f1) (apV l e.f5.f0 e.f5.f1) = true then srch h f (turn ++ [n]) (inb.set n true) (apL l e.f5.f0 e.f5.f1 e.f5.f2) else none) else none
def try1 (h : List S44) (f : Nat) (turn : List Nat) (inb : List Bool) (l : List S53) (n : Nat) : Option (List Nat) :=
  let e := rd_T44 h (n : Int)
  if readyP h inb n = true then (if tellsP e (apD l e.f5.f0 e.f5.f1) (apV l e.f5.f0 e.f5.f1) = true then srch h f (turn ++ [n]) (inb.set n true) (apL l e.f5.f0 e.f5.f1 e.f5.f2) else none) else none
theorem srch_whole {h : List S44} {f : Nat} {turn : List Nat} {inb : List Bool} {l : List S53} (hw : wholeP h inb = true) : srch h (f + 1) turn inb l = some turn := by
  rw [srch, if_pos hw]
theorem srch_try {h : List S44} {f : Nat} {turn : List Nat} {inb : List Bool} {l : List S53} (hw : wholeP h inb = false) : srch h (f + 1) turn inb l = (List.range h.length).findSome? (try1 h f turn inb l) := by
  rw [srch, if_neg (by rw [hw]; simp)]
  rfl
theorem findSome_none {α : Type} {n : Nat} {g : Nat → Option α} (h : ∀ j, j < n → g j = none) : (List.range n).findSome? g = none := by
  rw [List.findSome?_eq_none_iff]
  exact fun j hj => h j (List.mem_range.mp hj)
theorem findSome_some {α : Type} {n : Nat} {g : Nat → Option α} {i : Nat} {t : α} (hi : i < n) (h : ∀ j, j < i → g j = none) (ht : g i = some t) : (List.range n).findSome? g = some t := by
  have e : List.range n = List.range i ++ (i :: (List.range' (i + 1) (n - i - 1))) := by
    rw [List.range_eq_range', List.range_eq_range', show n = i + (1 + (n - i - 1)) from by omega, ← List.range'_append_1 (s := 0) (m := i), Nat.zero_add, ← List.range'_append_1 (s := i) (m := 1)]
    simp
  rw [e, List.findSome?_append, findSome_none h, Option.none_or, List.findSome?_cons, ht]
theorem try_unready {h : List S44} {f : Nat} {turn : List Nat} {inb : List Bool} {l : List S53} {n : Nat} (h1 : readyP h inb n = false) : try1 h f turn inb l n = none := by
  unfold try1
  exact if_neg (by rw [h1]; simp)
theorem try_untold {h : List S44} {f : Nat} {turn : List Nat} {inb : List Bool} {l : List S53} {n : Nat} {e : S44} (he : rd_T44 h (n : Int) = e) (h2 : tellsP e (apD l e.f5.f0 e.f5.f1) (apV l e.f5.f0 e.f5.f1) = false) : try1 h f turn inb l n = none := by
  unfold try1
  subst he
  split
  · exact if_neg (by rw [h2]; simp)
  · rfl
theorem try_on {h : List S44} {f : Nat} {turn : List Nat} {inb : List Bool} {l : List S53} {n : Nat} {e : S44} (he : rd_T44 h (n : Int) = e) (h1 : readyP h inb n = true) (h2 : tellsP e (apD l e.f5.f0 e.f5.f1) (apV l e.f5.f0 e.f5.f1) = true) : try1 h f turn inb l n = srch h f (turn ++ [n]) (inb.set n true) (apL l e.f5.f0 e.f5.f1 e.f5.f2) := by
  unfold try1
  subst he
  rw [if_pos h1]
  exact if_pos h2
/-- what goes in leaves one less -/
theorem count_set {inb : List Bool} {n : Nat} (h1 : n < inb.length) (h2 : inA inb n = false) : (inb.set n true).count false + 1 = inb.count false := by
  unfold inA at h2
  rw [List.getD_eq_getElem?_getD, List.getElem?_eq_getElem h1] at h2
  simp only [Option.getD_some] at h2
  have e : inb = inb.take n ++ (inb[n] :: inb.drop (n + 1)) := by rw [← List.drop_eq_getElem_cons h1, List.take_append_drop]
  have e2 : inb.set n true = inb.take n ++ (true :: inb.drop (n + 1)) := by rw [List.set_eq_take_append_cons_drop, if_pos h1]
  rw [e2]
  conv => rhs; rw [e]
  rw [List.count_append, List.count_append, List.count_cons, List.count_cons, h2]
  simp
  omega
theorem ready_in {h : List S44} {inb : List Bool} {n : Nat} (h1 : readyP h inb n = true) : inA inb n = false ∧ isPt (rd_T44 h (n : Int)) = true := by
  unfold readyP at h1
  simp only [Bool.and_eq_true, Bool.not_eq_true'] at h1
  exact h1.1
theorem in_put (inb : List Bool) (n : Nat) (b : Bool) : wqPut (inb.map Value.bool).toArray n [.bool b] = ((inb.set n b).map Value.bool).toArray := by
  simp [wqPut, List.map_set]
theorem set_back {inb : List Bool} {n : Nat} (h1 : n < inb.length) (h2 : inA inb n = false) : (inb.set n true).set n false = inb := by
  unfold inA at h2
  rw [List.getD_eq_getElem?_getD, List.getElem?_eq_getElem h1] at h2
  simp only [Option.getD_some] at h2
  rw [List.set_set, ← h2, List.set_getElem_self]
theorem grown_bel {W w w' : World} {g : Nat} (h : W.grownBy w (some g)) (hb : Below w.heap.size w w') : W.grownBy w' (some g) :=
  ⟨hb.os.trans h.os, hb.tape.trans h.tape, hb.output.trans h.output, Nat.le_trans h.size hb.size, fun k hk hne => (hb.block k (Nat.lt_of_lt_of_le hk h.size)).trans (h.block k hk hne)⟩
theorem grown_back {W w : World} {g : Nat} (h : W.grownBy w (some g)) {o : Obj} (h1 : W.heap[g]? = some o) (h2 : w.heap[g]? = some o) : Below W.heap.size W w := by
  refine ⟨h.os, h.tape, h.output, h.size, fun k hk => ?_⟩
  by_cases e : k = g
  · subst e
    exact h2.trans h1.symm
  · exact h.block k hk (fun e2 => e (Option.some.inj e2))
theorem grown_new {W w w1 : World} {gi g : Nat} (h : W.grownBy w (some gi)) (h2 : w.grownBy w1 (some g)) (hg : W.heap.size ≤ g) : W.grownBy w1 (some gi) :=
  ⟨h2.os.trans h.os, h2.tape.trans h.tape, h2.output.trans h.output, Nat.le_trans h.size h2.size, fun k hk hne => (h2.block k (Nat.lt_of_lt_of_le hk h.size) (fun e => by cases e; omega)).trans (h.block k hk hne)⟩
theorem grown_base {W0 W w : World} {gi : Nat} (hb : Below W0.heap.size W0 W) (hg : W.grownBy w (some gi)) (h : W0.heap.size ≤ gi) : Below W0.heap.size W0 w :=
  hb.grown hg hb.size (fun k hk => by cases hk; exact h)
def tints (t : List Nat) : List Value := t.map fun n => Value.int .i64 ((n : Nat) : Int)
/-- the cells of a turn, apart from block gi -/
def TR (gi : Nat) (w : World) (ao : Option Addr) (t : List Nat) : Prop := (ao = none → t = []) ∧ ∀ b, ao = some b → ∀ j u, (tints t)[j]? = some u → gi < b.block ∧ w.cell? (b.add j) = some u
theorem TR.nil (gi : Nat) (w : World) : TR gi w none [] := ⟨fun _ => rfl, fun b hb => by cases hb⟩
theorem TR.bel {gi : Nat} {w w' : World} {ao : Option Addr} {t : List Nat} (h : TR gi w ao t) (hb : Below w.heap.size w w') : TR gi w' ao t :=
  ⟨h.1, fun b e j u hj => by
    have hx := h.2 b e j u hj
    exact ⟨hx.1, (hb.cell (World.block_lt_of_cell? w _ hx.2)).trans hx.2⟩⟩
theorem add_block (b : Addr) (j : Nat) : (b.add j).block = b.block := by unfold Addr.add; split <;> rfl
theorem cell_block {w w' : World} {p : Addr} (h : w'.heap[p.block]? = w.heap[p.block]?) : w'.cell? p = w.cell? p := by
  unfold World.cell?
  rw [h]
theorem TR.grown {gi : Nat} {w w' : World} {ao : Option Addr} {t : List Nat} (h : TR gi w ao t) (hg : w.grownBy w' (some gi)) : TR gi w' ao t :=
  ⟨h.1, fun b e j u hj => by
    have hx := h.2 b e j u hj
    refine ⟨hx.1, (cell_block ?_).trans hx.2⟩
    have h1 := World.block_lt_of_cell? w _ hx.2
    exact hg.block _ h1 (fun e2 => Nat.ne_of_gt hx.1 (by have := Option.some.inj e2; rw [← this, add_block]))⟩
theorem OW.grown_ne {w w1 : World} {N g : Nat} {v : Value} {l : List S53} (h : OW w N v l) (hg : w.grownBy w1 (some g)) (hne : ∀ k, v.ownBlock = some k → k ≠ g) : OW w1 N v l := by
  refine ⟨h.1, ?_⟩
  rcases h.2 with h1 | ⟨g', cap, cur, h1, h2, h3, h4⟩
  · exact .inl h1
  · exact .inr ⟨g', cap, cur, h1, h2, wq_blk h3 hg (hne g' (by rw [h1]; rfl)), h4⟩
theorem li_tinfo0 : (Try.prog.info? 3).map (fun i => (i.zero, i.size, i.bytes)) = some (some (.int .i64 0), 1, 8) := by kernel_rfl
section
variable {ops : Array Oper} {rest : List Oper} {o : Oper} {a : Act} {Q : Exit → Act → World → Prop}
/-- a turn, with one more behind it -/
theorem li_tapp (hgd : o.guard = none) (s x : Operand) (ho : o.op = .call { callee := .builtin .append, args := #[s, x], argTypes := #[61, 61] }) {w : World} {gi : Nat} {ao : Option Addr} {t : List Nat} {i : Nat}
    (hs : a.eval s = .slice ao t.length t.length) (hx : a.eval x = .slice (some ⟨w.heap.size, 0, none⟩) 1 1) (hT : TR gi w ao t) (hl : t.length ≤ 1000) (hgi : gi < w.heap.size)
    (h : ∀ g cap w', TR gi w' (some ⟨g, 0, none⟩) (t ++ [i]) → (t ++ [i]).length ≤ cap → Below w.heap.size w w' → wpList Try.prog ops Q rest (a.put o.dst (.slice (some ⟨g, 0, none⟩) (t ++ [i]).length cap)) w') : wpList Try.prog ops Q (o :: rest) a (w.alloc (.cells #[.int .i64 ((i : Nat) : Int)] 3)) := by
  obtain ⟨i0, hp0, hz⟩ := Option.map_eq_some_iff.1 li_tinfo0
  simp only [Prod.mk.injEq] at hz
  have hb0 : Below w.heap.size w (w.alloc (.cells #[.int .i64 ((i : Nat) : Int)] 3)) := below_alloc (Below.refl _ _) _
  have hT1 := hT.bel hb0
  refine wpList_append_grows _ hgd s x 61 ho 3 i0 (.int .i64 0) 1 8 Try.underlying61 hp0 hz.1 hz.2.1 hz.2.2 rfl (by decide) ao t.length t.length (tints t) hs (fun e => by rw [hT.1 e]; exact ⟨rfl, rfl⟩) (by simp [tints]) (fun b e j u hj => (hT1.2 b e j u hj).2) ⟨w.heap.size, 0, none⟩ 1 1 [.int .i64 ((i : Nat) : Int)] hx rfl ?_ ?_ (by omega) (by unfold maxLen; omega) (by omega) ?_
  · intro j u hj
    rw [wq_add, blk_cell (blk_new w _)]
    match j, hj with
    | 0, hj => simpa using hj
  · intro u hu
    rw [List.mem_singleton] at hu
    subst hu
    rfl
  intro v' w' hown hgr
  have e : tints t ++ [.int .i64 ((i : Nat) : Int)] = tints (t ++ [i]) := by simp [tints]
  rw [e] at hown
  rcases hown.2 with ⟨h1, h2⟩ | ⟨g, cap, cur, h1, h2, h3, h4⟩
  · omega
  · subst h1
    have hrc := row_cap hown
    have hcap : (t ++ [i]).length ≤ cap := by have := hrc.2.1; simpa using this
    have hbel : Below w.heap.size w w' := hb0.grown hgr hb0.size (fun k hk => by cases hk)
    have hlen : (t ++ [i]).length = t.length + 1 := by simp
    have hwg : w.heap.size < g := by have := hrc.1; simp at this; omega
    have hTR : TR gi w' (some ⟨g, 0, none⟩) (t ++ [i]) := by
      refine ⟨fun e => (nomatch e), fun b e j u hj => ?_⟩
      cases e
      exact ⟨by show gi < g; omega, hown.cells rfl j u hj⟩
    have key := h g cap w' hTR hcap hbel
    rw [hlen] at key
    exact key
end
set_option maxHeartbeats 8000000 in
set_option maxRecDepth 100000 in
theorem li_clip (ao : Option Addr) (n c : Nat) (hn : n ≤ c) (hn2 : n ≤ 1000) (W : World) : Calls Try.prog 33 #[.slice ao n c] W fun e w' => e = .returned (.slice ao n n) ∧ w' = W := by
  have h1 : (n : Int) ≤ (c : Int) := by omega
  have h2 : (n : Int) ≤ 1000 := by omega
  go_enter Try.func33, Try.ntmps33
  go_wp2
  go_ret
  exact ⟨rfl, rfl⟩

def NextPost (s : Option (List Nat)) (gi : Nat) (W : World) (e : Ending) (w' : World) : Prop :=
  match s with
  | none => e = .returned (.tuple #[]) ∧ Below W.heap.size W w'
  | some t => ∃ ao c, e = .panicked [{ v := .iface 61 (.slice ao t.length c), recovered := false }] ∧ t.length ≤ c ∧ W.grownBy w' (some gi) ∧ TR gi w' ao t
def NextLaw (W0 : World) (A : Option Addr) (c0 : Nat) (h : List S44) (gs gi : Nat) (f : Nat) : Prop :=
  ∀ (turn : List Nat) (inb : List Bool) (l : List S53) (N : Nat) (vl : Value) (ao : Option Addr) (ct : Nat) (W : World), inb.length = h.length → inb.count false < f → turn.length + inb.count false = h.length → Rising l → l.length ≤ turn.length →
    Below W0.heap.size W0 W → W.heap[gs]? = some (.cells #[.slice A h.length c0, .slice (some ⟨gi, 0, none⟩) h.length h.length] 64 (0, 0)) → W.heap[gi]? = some (.cells (inb.map Value.bool).toArray 4 (0, 0)) → OW W N vl l → gi < N → N ≤ W.heap.size → TR gi W ao turn → turn.length ≤ ct →
    Calls Try.prog 26 #[.pointer (some ⟨gs, 0, none⟩), .slice ao turn.length ct, vl] W (NextPost (srch h f turn inb l) gi W)
theorem nextLaw_at {W0 : World} {A : Option Addr} {c0 : Nat} {h : List S44} {gs gi f : Nat} (law : NextLaw W0 A c0 h gs gi f) (m : Nat) (turn : List Nat) (inb : List Bool) (l : List S53) (N : Nat) (vl : Value) (ao : Option Addr) (ct : Nat) (W : World) (hm : turn.length = m) (h1 : inb.length = h.length) (h2 : inb.count false < f) (h3 : turn.length + inb.count false = h.length) (h4 : Rising l) (h5 : l.length ≤ turn.length)
    (h6 : Below W0.heap.size W0 W) (h7 : W.heap[gs]? = some (.cells #[.slice A h.length c0, .slice (some ⟨gi, 0, none⟩) h.length h.length] 64 (0, 0))) (h8 : W.heap[gi]? = some (.cells (inb.map Value.bool).toArray 4 (0, 0))) (h9 : OW W N vl l) (h10 : gi < N) (h11 : N ≤ W.heap.size) (h12 : TR gi W ao turn) (h13 : turn.length ≤ ct) :
    Calls Try.prog 26 #[.pointer (some ⟨gs, 0, none⟩), .slice ao m ct, vl] W (NextPost (srch h f turn inb l) gi W) := by
  subst hm
  exact law turn inb l N vl ao ct W h1 h2 h3 h4 h5 h6 h7 h8 h9 h10 h11 h12 h13
theorem nextPost_none {s : Option (List Nat)} {gi : Nat} {W : World} {e : Ending} {w' : World} (hs : s = none) (h : NextPost s gi W e w') : e = .returned (.tuple #[]) ∧ Below W.heap.size W w' := by
  subst hs
  exact h
theorem nextPost_some {s : Option (List Nat)} {t : List Nat} {gi : Nat} {W : World} {e : Ending} {w' : World} (hs : s = some t) (h : NextPost s gi W e w') : ∃ ao c, e = .panicked [{ v := .iface 61 (.slice ao t.length c), recovered := false }] ∧ t.length ≤ c ∧ W.grownBy w' (some gi) ∧ TR gi w' ao t := by
  subst hs
  exact h
theorem nextPost_mk0 {s : Option (List Nat)} {gi : Nat} {W : World} {w' : World} (hs : s = none) (h : Below W.heap.size W w') : NextPost s gi W (.returned (.tuple #[])) w' := by
  subst hs
  exact ⟨rfl, h⟩
theorem nextPost_mk1 {s : Option (List Nat)} {t : List Nat} {gi : Nat} {W : World} {w' : World} {ao : Option Addr} {c : Nat} (hs : s = some t) (hc : t.length ≤ c) (h : W.grownBy w' (some gi)) (h2 : TR gi w' ao t) : NextPost s gi W (.panicked [{ v := .iface 61 (.slice ao t.length c), recovered := false }]) w' := by
  subst hs
  exact ⟨ao, c, rfl, hc, h, h2⟩
set_option maxHeartbeats 8000000 in
set_option maxRecDepth 100000 in
theorem li_next_step (W0 : World) (A : Option Addr) (c0 : Nat) (h : List S44) (gs gi : Nat) (hh : h.length ≤ 1000) (hr : Kd.C k44 W0 A h.length h) (hne : gs ≠ gi) (hz : W0.heap.size ≤ gi) (f : Nat) (ih : NextLaw W0 A c0 h gs gi f) : NextLaw W0 A c0 h gs gi (f + 1) := by
  intro turn inb l N vl ao ct W hin hcf htl hrs hll hb0 hbs hbi how hgN hNs htr hct
  have HN := Aside0.mk hin
  have HCF := Aside0.mk hcf
  have HTL := Aside0.mk htl
  have HRS := Aside0.mk hrs
  have HLL := Aside0.mk hll
  have HB0 := Aside0.mk hb0
  have BS := Aside0.mk hbs
  have BI := Aside0.mk hbi
  have BI0 := Aside0.mk hbi
  have HO := Aside0.mk how
  have HGN := Aside0.mk (And.intro hgN hNs)
  have HT := Aside0.mk htr
  have HCT := Aside0.mk hct
  have HG := Aside0.mk (wq_grown_self W gi)
  have HR := Aside0.mk hr
  have HH := Aside0.mk hh
  have HGBI := Aside0.mk (show gs ≠ gi ∧ True from ⟨hne, trivial⟩)
  have HZ := Aside0.mk (And.intro hne hz)
  have IH := Aside0.mk ih
  clear hin hcf htl hrs hll hb0 hbs hbi how hgN hNs htr hct hr hh hne hz ih
  cases hwh : wholeP h inb
  · have HWH := Aside0.mk hwh
    go_enter Try.func26, Try.ntmps26
    go_wp2_with (first | (go_at_call 30; (with_reducible refine (li_whole A c0 h HH.out gs gi inb HN.out _ (Kd.C_below HR.out (grown_base HB0.out HG.out HZ.out.2)) BS.out BI.out).mono ?_); rintro e au1_ ⟨rfl, hbk⟩; have n_HG := Aside0.mk (grown_bel HG.out hbk); have n_BS := Aside0.mk (blk_below BS.out hbk); have n_BI := Aside0.mk (blk_below BI.out hbk); clear HG BS BI; have HG := n_HG; have BS := n_BS; have BI := n_BI; clear n_HG n_BS n_BI; clear hbk) | ((with_reducible refine gate_dst (N := 17) rfl ?_); refine wq_load1 (ty := 36) (p := .tmp 16) (g := gs) (i := 0) (v := ?v2) ?hgd2 ?ho2 ?hp2 Try.underlying36 ?hd2 BS.out ?hv2 ?_; (case hd2 => rfl); (case hgd2 => rfl); (case ho2 => rfl); (case hp2 => rfl); (case hv2 => rfl)))
    clear hwh
    go_loopg [19] h.length (fun kq v19 wr => ∃ (i : Nat), v19 = .int .i64 i ∧ Aside0 (i ≤ h.length) ∧ Aside0 (h.length - i ≤ kq) ∧ Aside0 (∀ j, j < i → try1 h f turn inb l j = none) ∧ Aside0 (wr.heap[gs]? = some (.cells #[.slice A h.length c0, .slice (some ⟨gi, 0, none⟩) h.length h.length] 64 (0, 0))) ∧ Aside0 (wr.heap[gi]? = some (.cells (inb.map Value.bool).toArray 4 (0, 0))) ∧ Aside0 (W.grownBy wr (some gi)))
    case atStart => exact ⟨0, rfl, ⟨Nat.zero_le _⟩, ⟨by omega⟩, ⟨fun j hj => by omega⟩, BS, BI, HG⟩
    case round =>
      clear HG BS BI
      obtain ⟨i, rfl, HJ, HK, HW, BS, BI, HG⟩ := hrel
      by_cases hil : i < h.length
      · have hlt : (i : Int) < (h.length : Int) := by omega
        have hi0 : (0 : Int) ≤ (i : Int) := by omega
        have hib : (i : Int) ≤ 1000 := by have := HH.out; omega
        have HIL := Aside0.mk hil
        obtain ⟨ad, A12, c12, rfl, hE, hlc, hrc⟩ := ev_at HR.out i hil
        obtain ⟨e, he⟩ : ∃ e, rd_T44 h (i : Int) = e := ⟨_, rfl⟩
        rw [he] at hE hlc hrc
        have HEQ := Aside0.mk he
        have HE := Aside0.mk hE
        have HLC := Aside0.mk hlc
        have HRC := Aside0.mk hrc
        clear hE hlc hrc hil he
        cases hrd : readyP h inb i
        · have HRD := Aside0.mk hrd
          go_wp2_with (first | ((with_reducible refine gate_dst (N := 23) rfl ?_); refine wq_loadE (ty := 44) (p := .tmp 22) (k := 13) (ad := ad.add (i * 13)) (vs := [.int .i64 e.f0, .int .i64 e.f1, .int .i64 e.f2, .int .i64 e.f3, .int .i64 e.f4, .int .i64 e.f5.f0, .int .u64 e.f5.f1, .int .u64 e.f5.f2, .int .i64 e.f5.f3, .int .i64 e.f6.f0, .bool e.f6.f1, .int .u64 e.f6.f2, .slice A12 e.f6.f3.length c12]) ?hgd3 ?ho3 ?hp3 Try.underlying44 ?hd3 ?hi3 (cells_bel rfl (grown_base HB0.out HG.out HZ.out.2) HE.out) ?hk3 ?_; (case hd3 => rfl); (case hi3 => kernel_rfl); (case hgd3 => rfl); (case ho3 => rfl); (case hp3 => rfl); (case hk3 => rfl)) | ((with_reducible refine gate_dst (N := 7) rfl ?_); refine box_event ?hg4 (N := 7) ?hd4 (cs := #[.int .i64 0, .int .i64 0, .int .i64 0, .int .i64 0, .int .i64 0, .int .i64 0, .int .u64 0, .int .u64 0, .int .i64 0, .int .i64 0, .bool false, .int .u64 0, .slice none 0 0]) (t := 44) ?hr4 ?_; (case hd4 => rfl); (case hg4 => rfl); (case hr4 => first | (go_simp; done) | (go_simp; rfl)); intro pg10 hg pw1_ hbox hbk; have HGpB10 := Aside0.mk (show gs ≠ pg10 ∧ gi ≠ pg10 ∧ W.heap.size ≤ pg10 from by rw [hg]; have := blk_lt BS.out; have := blk_lt BI.out; have := HG.out.size; omega); have n_HG := Aside0.mk (grown_bel HG.out hbk); have n_BS := Aside0.mk (blk_below BS.out hbk); have n_BI := Aside0.mk (blk_below BI.out hbk); clear HG BS BI; have HG := n_HG; have BS := n_BS; have BI := n_BI; clear n_HG n_BS n_BI; have pB10 := Aside0.mk hbox; clear hbk hbox hg) | ((with_reducible refine gate_store (p := 7) rfl ?_); refine wq_store (ty := 44) (p := .tmp 7) (x := .tmp 23) (g := pg10) (i := 0) (k := 13) (v := ?v5) (vs := ?vs5) (cs' := ?cs5) ?hgd5 ?hdst5 ?ho5 ?hp5 ?hx5 ?hvc5 ?hi5 ?hk5 ?h15 pB10.out ?hsz5 ?hcs5 ?_; (case hi5 => kernel_rfl); (case hgd5 => rfl); (case hdst5 => rfl); (case ho5 => rfl); (case hp5 => rfl); (case hx5 => go_simp; with_reducible rfl); (case hvc5 => simp only [Value.cells]; with_reducible rfl); (case hk5 => rfl); (case h15 => rfl); (case hsz5 => exact Nat.le_of_ble_eq_true rfl); (case hcs5 => simp only [wqPut, List.setIfInBounds_toArray, List.set_cons_succ, List.set_cons_zero, Nat.reduceAdd]; with_reducible rfl); intro pw2_ hb hgr; have n_HG := Aside0.mk (grown_new HG.out hgr HGpB10.out.2.2); have n_BS := Aside0.mk (wq_blk BS.out hgr HGpB10.out.1); have n_BI := Aside0.mk (wq_blk BI.out hgr HGpB10.out.2.1); have n_pB10 := Aside0.mk hb; clear HG BS BI pB10 hb hgr; have HG := n_HG; have BS := n_BS; have BI := n_BI; have pB10 := n_pB10; clear n_HG n_BS n_BI n_pB10) | (go_at_call 31; (with_reducible refine (li_ready (some ad) c0 h HH.out gs gi inb HN.out i HIL.out _ (Kd.C_below HR.out (grown_base HB0.out HG.out HZ.out.2)) BS.out BI.out).mono ?_); rintro e pu3_ ⟨rfl, hbk⟩; have n_HG := Aside0.mk (grown_bel HG.out hbk); have n_BS := Aside0.mk (blk_below BS.out hbk); have n_BI := Aside0.mk (blk_below BI.out hbk); have n_pB10 := Aside0.mk (blk_below pB10.out hbk); clear HG BS BI pB10; have HG := n_HG; have BS := n_BS; have BI := n_BI; have pB10 := n_pB10; clear n_HG n_BS n_BI n_pB10; clear hbk))
          go_roundg (h.length - (i + 1))
          case measure => have := HIL.out; have := HK.out; omega
          case rel =>
            have hil := HIL.out
            have hh := HH.out
            exact ⟨i + 1, by first | rfl | (rw [show wrap64 ((i : Int) + 1) = ((i + 1 : Nat) : Int) from by unfold wrap64; omega]), ⟨hil⟩, ⟨by omega⟩, ⟨fun j hj => by
              rcases Nat.lt_or_ge j i with h3 | h3
              · exact HW.out j h3
              · have h4 : j = i := by omega
                subst h4
                exact try_unready HRD.out⟩, BS, BI, HG⟩
        · have HRD := Aside0.mk hrd
          obtain ⟨Al, cl, rfl, _, _⟩ := OW.C HO.out
          have HOC := Aside0.mk (show ∀ w : World, OW w N (.slice Al l.length cl) l → Kd.C k53 w Al l.length l from fun w ho => by obtain ⟨A2, c2, e2, _, h2⟩ := OW.C ho; injection e2 with e3 _ _; rw [e3]; exact h2)
          cases htl2 : tellsP e (apD l e.f5.f0 e.f5.f1) (apV l e.f5.f0 e.f5.f1)
          · have HTQ := Aside0.mk htl2
            go_wp2_with (first | ((with_reducible refine gate_dst (N := 23) rfl ?_); refine wq_loadE (ty := 44) (p := .tmp 22) (k := 13) (ad := ad.add (i * 13)) (vs := [.int .i64 e.f0, .int .i64 e.f1, .int .i64 e.f2, .int .i64 e.f3, .int .i64 e.f4, .int .i64 e.f5.f0, .int .u64 e.f5.f1, .int .u64 e.f5.f2, .int .i64 e.f5.f3, .int .i64 e.f6.f0, .bool e.f6.f1, .int .u64 e.f6.f2, .slice A12 e.f6.f3.length c12]) ?hgd7 ?ho7 ?hp7 Try.underlying44 ?hd7 ?hi7 (cells_bel rfl (grown_base HB0.out HG.out HZ.out.2) HE.out) ?hk7 ?_; (case hd7 => rfl); (case hi7 => kernel_rfl); (case hgd7 => rfl); (case ho7 => rfl); (case hp7 => rfl); (case hk7 => rfl)) | ((with_reducible refine gate_dst (N := 7) rfl ?_); refine box_event ?hg8 (N := 7) ?hd8 (cs := #[.int .i64 0, .int .i64 0, .int .i64 0, .int .i64 0, .int .i64 0, .int .i64 0, .int .u64 0, .int .u64 0, .int .i64 0, .int .i64 0, .bool false, .int .u64 0, .slice none 0 0]) (t := 44) ?hr8 ?_; (case hd8 => rfl); (case hg8 => rfl); (case hr8 => first | (go_simp; done) | (go_simp; rfl)); intro qg10 hg qw1_ hbox hbk; have HGqB10 := Aside0.mk (show gs ≠ qg10 ∧ gi ≠ qg10 ∧ W.heap.size ≤ qg10 from by rw [hg]; have := blk_lt BS.out; have := blk_lt BI.out; have := HG.out.size; omega); have n_HG := Aside0.mk (grown_bel HG.out hbk); have n_BS := Aside0.mk (blk_below BS.out hbk); have n_BI := Aside0.mk (blk_below BI.out hbk); clear HG BS BI; have HG := n_HG; have BS := n_BS; have BI := n_BI; clear n_HG n_BS n_BI; have qB10 := Aside0.mk hbox; clear hbk hbox hg) | ((with_reducible refine gate_store (p := 7) rfl ?_); refine wq_store (ty := 44) (p := .tmp 7) (x := .tmp 23) (g := qg10) (i := 0) (k := 13) (v := ?v9) (vs := ?vs9) (cs' := ?cs9) ?hgd9 ?hdst9 ?ho9 ?hp9 ?hx9 ?hvc9 ?hi9 ?hk9 ?h19 qB10.out ?hsz9 ?hcs9 ?_; (case hi9 => kernel_rfl); (case hgd9 => rfl); (case hdst9 => rfl); (case ho9 => rfl); (case hp9 => rfl); (case hx9 => go_simp; with_reducible rfl); (case hvc9 => simp only [Value.cells]; with_reducible rfl); (case hk9 => rfl); (case h19 => rfl); (case hsz9 => exact Nat.le_of_ble_eq_true rfl); (case hcs9 => simp only [wqPut, List.setIfInBounds_toArray, List.set_cons_succ, List.set_cons_zero, Nat.reduceAdd]; with_reducible rfl); intro qw2_ hb hgr; have n_HG := Aside0.mk (grown_new HG.out hgr HGqB10.out.2.2); have n_BS := Aside0.mk (wq_blk BS.out hgr HGqB10.out.1); have n_BI := Aside0.mk (wq_blk BI.out hgr HGqB10.out.2.1); have n_qB10 := Aside0.mk hb; clear HG BS BI qB10 hb hgr; have HG := n_HG; have BS := n_BS; have BI := n_BI; have qB10 := n_qB10; clear n_HG n_BS n_BI n_qB10) | (go_at_call 31; (with_reducible refine (li_ready (some ad) c0 h HH.out gs gi inb HN.out i HIL.out _ (Kd.C_below HR.out (grown_base HB0.out HG.out HZ.out.2)) BS.out BI.out).mono ?_); rintro e qu3_ ⟨rfl, hbk⟩; have n_HG := Aside0.mk (grown_bel HG.out hbk); have n_BS := Aside0.mk (blk_below BS.out hbk); have n_BI := Aside0.mk (blk_below BI.out hbk); have n_qB10 := Aside0.mk (blk_below qB10.out hbk); clear HG BS BI qB10; have HG := n_HG; have BS := n_BS; have BI := n_BI; have qB10 := n_qB10; clear n_HG n_BS n_BI n_qB10; clear hbk) | ((with_reducible refine gate_dst (N := 31) rfl ?_); refine wq_loadA (ty := 25) (p := .tmp 30) (g := qg10) (i := 5) (k := 4) (vs := ?vs11) ?hgd11 ?ho11 ?hp11 Try.underlying25 ?hd11 ?hi11 qB10.out ?hv11 ?hk11 ?_; (case hd11 => rfl); (case hi11 => kernel_rfl); (case hgd11 => rfl); (case ho11 => rfl); (case hp11 => rfl); (case hv11 => simp only [List.drop_succ_cons, List.drop_zero, List.take_succ_cons, List.take_zero, List.take_nil, List.drop_nil]; with_reducible rfl); (case hk11 => rfl)) | (go_at_call 9; (with_reducible refine (li_Apply _ _ l e.f5.f0 e.f5.f1 e.f5.f2 e.f5.f3 (by have := HLL.out; have := HTL.out; have := HH.out; omega) HRS.out _ (HOC.out _ (OW.grown HO.out HG.out HGN.out.1))).mono ?_); rintro e qu4_ ⟨v8, rfl, ho, hbk⟩; have hNN : ∃ M, gi < M ∧ M ≤ qu4_.heap.size ∧ OW qu4_ M v8 (apL l e.f5.f0 e.f5.f1 e.f5.f2) := ⟨_, blk_lt BI.out, hbk.size, ho⟩; have n_HG := Aside0.mk (grown_bel HG.out hbk); have n_BS := Aside0.mk (blk_below BS.out hbk); have n_BI := Aside0.mk (blk_below BI.out hbk); have n_qB10 := Aside0.mk (blk_below qB10.out hbk); clear HG BS BI qB10; have HG := n_HG; have BS := n_BS; have BI := n_BI; have qB10 := n_qB10; clear n_HG n_BS n_BI n_qB10; clear hbk ho; obtain ⟨M, n1, n2, n3⟩ := hNN; have HM := Aside0.mk (And.intro n1 n2); have HO8 := Aside0.mk n3; clear n1 n2 n3) | ((with_reducible refine gate_dst (N := 9) rfl ?_); refine box_event ?hg13 (N := 9) ?hd13 (cs := #[.int .i64 0, .bool false, .int .u64 0, .slice none 0 0]) (t := 30) ?hr13 ?_; (case hd13 => rfl); (case hg13 => rfl); (case hr13 => first | (go_simp; done) | (go_simp; rfl)); intro qg11 hg qw5_ hbox hbk; have HGqB11 := Aside0.mk (show gs ≠ qg11 ∧ gi ≠ qg11 ∧ qg10 ≠ qg11 ∧ W.heap.size ≤ qg11 from by rw [hg]; have := blk_lt BS.out; have := blk_lt BI.out; have := blk_lt qB10.out; have := HG.out.size; omega); have HVqB11 := Aside0.mk (show ∀ k, (v8 : Value).ownBlock = some k → k ≠ qg11 from fun k hk => by rw [hg]; exact Nat.ne_of_lt (World.ownsRow.lt HO8.out k hk).2); have n_HG := Aside0.mk (grown_bel HG.out hbk); have n_HO8 := Aside0.mk (OW.below HO8.out hbk); have n_HM := Aside0.mk (And.intro HM.out.1 (Nat.le_trans HM.out.2 hbk.size)); have n_BS := Aside0.mk (blk_below BS.out hbk); have n_BI := Aside0.mk (blk_below BI.out hbk); have n_qB10 := Aside0.mk (blk_below qB10.out hbk); clear HG HO8 HM BS BI qB10; have HG := n_HG; have HO8 := n_HO8; have HM := n_HM; have BS := n_BS; have BI := n_BI; have qB10 := n_qB10; clear n_HG n_HO8 n_HM n_BS n_BI n_qB10; have qB11 := Aside0.mk hbox; clear hbk hbox hg) | ((with_reducible refine gate_store (p := 9) rfl ?_); refine wq_store (ty := 30) (p := .tmp 9) (x := .tmp 34) (g := qg11) (i := 0) (k := 4) (v := ?v14) (vs := ?vs14) (cs' := ?cs14) ?hgd14 ?hdst14 ?ho14 ?hp14 ?hx14 ?hvc14 ?hi14 ?hk14 ?h114 qB11.out ?hsz14 ?hcs14 ?_; (case hi14 => kernel_rfl); (case hgd14 => rfl); (case hdst14 => rfl); (case ho14 => rfl); (case hp14 => rfl); (case hx14 => go_simp; with_reducible rfl); (case hvc14 => simp only [Value.cells]; with_reducible rfl); (case hk14 => rfl); (case h114 => rfl); (case hsz14 => exact Nat.le_of_ble_eq_true rfl); (case hcs14 => simp only [wqPut, List.setIfInBounds_toArray, List.set_cons_succ, List.set_cons_zero, Nat.reduceAdd]; with_reducible rfl); intro qw6_ hb hgr; have n_HG := Aside0.mk (grown_new HG.out hgr HGqB11.out.2.2.2); have n_HO8 := Aside0.mk (OW.grown_ne HO8.out hgr HVqB11.out); have n_HM := Aside0.mk (And.intro HM.out.1 (Nat.le_trans HM.out.2 hgr.size)); have n_BS := Aside0.mk (wq_blk BS.out hgr HGqB11.out.1); have n_BI := Aside0.mk (wq_blk BI.out hgr HGqB11.out.2.1); have n_qB10 := Aside0.mk (wq_blk qB10.out hgr HGqB11.out.2.2.1); have n_qB11 := Aside0.mk hb; clear HG HO8 HM BS BI qB10 qB11 hb hgr; have HG := n_HG; have HO8 := n_HO8; have HM := n_HM; have BS := n_BS; have BI := n_BI; have qB10 := n_qB10; have qB11 := n_qB11; clear n_HG n_HO8 n_HM n_BS n_BI n_qB10 n_qB11) | ((with_reducible refine gate_dst (N := 35) rfl ?_); refine wq_loadA (ty := 44) (p := .tmp 7) (g := qg10) (i := 0) (k := 13) (vs := ?vs15) ?hgd15 ?ho15 ?hp15 Try.underlying44 ?hd15 ?hi15 qB10.out ?hv15 ?hk15 ?_; (case hd15 => rfl); (case hi15 => kernel_rfl); (case hgd15 => rfl); (case ho15 => rfl); (case hp15 => rfl); (case hv15 => simp only [List.drop_succ_cons, List.drop_zero, List.take_succ_cons, List.take_zero, List.take_nil, List.drop_nil]; with_reducible rfl); (case hk15 => rfl)) | ((with_reducible refine gate_dst (N := 36) rfl ?_); refine wq_loadA (ty := 30) (p := .tmp 9) (g := qg11) (i := 0) (k := 4) (vs := ?vs16) ?hgd16 ?ho16 ?hp16 Try.underlying30 ?hd16 ?hi16 qB11.out ?hv16 ?hk16 ?_; (case hd16 => rfl); (case hi16 => kernel_rfl); (case hgd16 => rfl); (case ho16 => rfl); (case hp16 => rfl); (case hv16 => simp only [List.drop_succ_cons, List.drop_zero, List.take_succ_cons, List.take_zero, List.take_nil, List.drop_nil]; with_reducible rfl); (case hk16 => rfl)) | (go_at_call 32; (with_reducible refine (li_tells e A12 c12 HLC.out (apD l e.f5.f0 e.f5.f1) (apV l e.f5.f0 e.f5.f1) _ (Kd.C_below HRC.out (grown_base HB0.out HG.out HZ.out.2))).mono ?_); rintro e qu7_ ⟨rfl, hbk⟩; have n_HG := Aside0.mk (grown_bel HG.out hbk); have n_HO8 := Aside0.mk (OW.below HO8.out hbk); have n_HM := Aside0.mk (And.intro HM.out.1 (Nat.le_trans HM.out.2 hbk.size)); have n_BS := Aside0.mk (blk_below BS.out hbk); have n_BI := Aside0.mk (blk_below BI.out hbk); have n_qB10 := Aside0.mk (blk_below qB10.out hbk); have n_qB11 := Aside0.mk (blk_below qB11.out hbk); clear HG HO8 HM BS BI qB10 qB11; have HG := n_HG; have HO8 := n_HO8; have HM := n_HM; have BS := n_BS; have BI := n_BI; have qB10 := n_qB10; have qB11 := n_qB11; clear n_HG n_HO8 n_HM n_BS n_BI n_qB10 n_qB11; clear hbk))
            go_roundg (h.length - (i + 1))
            case measure => have := HIL.out; have := HK.out; omega
            case rel =>
              have hil := HIL.out
              have hh := HH.out
              exact ⟨i + 1, by first | rfl | (rw [show wrap64 ((i : Int) + 1) = ((i + 1 : Nat) : Int) from by unfold wrap64; omega]), ⟨hil⟩, ⟨by omega⟩, ⟨fun j hj => by
                rcases Nat.lt_or_ge j i with h3 | h3
                · exact HW.out j h3
                · have h4 : j = i := by omega
                  subst h4
                  exact try_untold HEQ.out HTQ.out⟩, BS, BI, HG⟩
          · have HTQ := Aside0.mk htl2
            obtain ⟨s, hsr⟩ : ∃ s, srch h f (turn ++ [i]) (inb.set i true) (apL l e.f5.f0 e.f5.f1 e.f5.f2) = s := ⟨_, rfl⟩
            have HSR := Aside0.mk hsr
            clear hsr
            have HIA := Aside0.mk (ready_in HRD.out).1
            have HCS := Aside0.mk (count_set (by have := HIL.out; have := HN.out; omega) HIA.out)
            cases s with
            | none =>
              go_wp2_with (first | ((with_reducible refine gate_dst (N := 23) rfl ?_); refine wq_loadE (ty := 44) (p := .tmp 22) (k := 13) (ad := ad.add (i * 13)) (vs := [.int .i64 e.f0, .int .i64 e.f1, .int .i64 e.f2, .int .i64 e.f3, .int .i64 e.f4, .int .i64 e.f5.f0, .int .u64 e.f5.f1, .int .u64 e.f5.f2, .int .i64 e.f5.f3, .int .i64 e.f6.f0, .bool e.f6.f1, .int .u64 e.f6.f2, .slice A12 e.f6.f3.length c12]) ?hgd18 ?ho18 ?hp18 Try.underlying44 ?hd18 ?hi18 (cells_bel rfl (grown_base HB0.out HG.out HZ.out.2) HE.out) ?hk18 ?_; (case hd18 => rfl); (case hi18 => kernel_rfl); (case hgd18 => rfl); (case ho18 => rfl); (case hp18 => rfl); (case hk18 => rfl)) | ((with_reducible refine gate_dst (N := 7) rfl ?_); refine box_event ?hg19 (N := 7) ?hd19 (cs := #[.int .i64 0, .int .i64 0, .int .i64 0, .int .i64 0, .int .i64 0, .int .i64 0, .int .u64 0, .int .u64 0, .int .i64 0, .int .i64 0, .bool false, .int .u64 0, .slice none 0 0]) (t := 44) ?hr19 ?_; (case hd19 => rfl); (case hg19 => rfl); (case hr19 => first | (go_simp; done) | (go_simp; rfl)); intro rg10 hg rw1_ hbox hbk; have HGrB10 := Aside0.mk (show gs ≠ rg10 ∧ gi ≠ rg10 ∧ W.heap.size ≤ rg10 from by rw [hg]; have := blk_lt BS.out; have := blk_lt BI.out; have := HG.out.size; omega); have n_HG := Aside0.mk (grown_bel HG.out hbk); have n_BS := Aside0.mk (blk_below BS.out hbk); have n_BI := Aside0.mk (blk_below BI.out hbk); clear HG BS BI; have HG := n_HG; have BS := n_BS; have BI := n_BI; clear n_HG n_BS n_BI; have rB10 := Aside0.mk hbox; clear hbk hbox hg) | ((with_reducible refine gate_store (p := 7) rfl ?_); refine wq_store (ty := 44) (p := .tmp 7) (x := .tmp 23) (g := rg10) (i := 0) (k := 13) (v := ?v20) (vs := ?vs20) (cs' := ?cs20) ?hgd20 ?hdst20 ?ho20 ?hp20 ?hx20 ?hvc20 ?hi20 ?hk20 ?h120 rB10.out ?hsz20 ?hcs20 ?_; (case hi20 => kernel_rfl); (case hgd20 => rfl); (case hdst20 => rfl); (case ho20 => rfl); (case hp20 => rfl); (case hx20 => go_simp; with_reducible rfl); (case hvc20 => simp only [Value.cells]; with_reducible rfl); (case hk20 => rfl); (case h120 => rfl); (case hsz20 => exact Nat.le_of_ble_eq_true rfl); (case hcs20 => simp only [wqPut, List.setIfInBounds_toArray, List.set_cons_succ, List.set_cons_zero, Nat.reduceAdd]; with_reducible rfl); intro rw2_ hb hgr; have n_HG := Aside0.mk (grown_new HG.out hgr HGrB10.out.2.2); have n_BS := Aside0.mk (wq_blk BS.out hgr HGrB10.out.1); have n_BI := Aside0.mk (wq_blk BI.out hgr HGrB10.out.2.1); have n_rB10 := Aside0.mk hb; clear HG BS BI rB10 hb hgr; have HG := n_HG; have BS := n_BS; have BI := n_BI; have rB10 := n_rB10; clear n_HG n_BS n_BI n_rB10) | (go_at_call 31; (with_reducible refine (li_ready (some ad) c0 h HH.out gs gi inb HN.out i HIL.out _ (Kd.C_below HR.out (grown_base HB0.out HG.out HZ.out.2)) BS.out BI.out).mono ?_); rintro e ru3_ ⟨rfl, hbk⟩; have n_HG := Aside0.mk (grown_bel HG.out hbk); have n_BS := Aside0.mk (blk_below BS.out hbk); have n_BI := Aside0.mk (blk_below BI.out hbk); have n_rB10 := Aside0.mk (blk_below rB10.out hbk); clear HG BS BI rB10; have HG := n_HG; have BS := n_BS; have BI := n_BI; have rB10 := n_rB10; clear n_HG n_BS n_BI n_rB10; clear hbk) | ((with_reducible refine gate_dst (N := 31) rfl ?_); refine wq_loadA (ty := 25) (p := .tmp 30) (g := rg10) (i := 5) (k := 4) (vs := ?vs22) ?hgd22 ?ho22 ?hp22 Try.underlying25 ?hd22 ?hi22 rB10.out ?hv22 ?hk22 ?_; (case hd22 => rfl); (case hi22 => kernel_rfl); (case hgd22 => rfl); (case ho22 => rfl); (case hp22 => rfl); (case hv22 => simp only [List.drop_succ_cons, List.drop_zero, List.take_succ_cons, List.take_zero, List.take_nil, List.drop_nil]; with_reducible rfl); (case hk22 => rfl)) | (go_at_call 9; (with_reducible refine (li_Apply _ _ l e.f5.f0 e.f5.f1 e.f5.f2 e.f5.f3 (by have := HLL.out; have := HTL.out; have := HH.out; omega) HRS.out _ (HOC.out _ (OW.grown HO.out HG.out HGN.out.1))).mono ?_); rintro e ru4_ ⟨v8, rfl, ho, hbk⟩; have hNN : ∃ M, gi < M ∧ M ≤ ru4_.heap.size ∧ OW ru4_ M v8 (apL l e.f5.f0 e.f5.f1 e.f5.f2) := ⟨_, blk_lt BI.out, hbk.size, ho⟩; have n_HG := Aside0.mk (grown_bel HG.out hbk); have n_BS := Aside0.mk (blk_below BS.out hbk); have n_BI := Aside0.mk (blk_below BI.out hbk); have n_rB10 := Aside0.mk (blk_below rB10.out hbk); clear HG BS BI rB10; have HG := n_HG; have BS := n_BS; have BI := n_BI; have rB10 := n_rB10; clear n_HG n_BS n_BI n_rB10; clear hbk ho; obtain ⟨M, n1, n2, n3⟩ := hNN; have HM := Aside0.mk (And.intro n1 n2); have HO8 := Aside0.mk n3; clear n1 n2 n3) | ((with_reducible refine gate_dst (N := 9) rfl ?_); refine box_event ?hg24 (N := 9) ?hd24 (cs := #[.int .i64 0, .bool false, .int .u64 0, .slice none 0 0]) (t := 30) ?hr24 ?_; (case hd24 => rfl); (case hg24 => rfl); (case hr24 => first | (go_simp; done) | (go_simp; rfl)); intro rg11 hg rw5_ hbox hbk; have HGrB11 := Aside0.mk (show gs ≠ rg11 ∧ gi ≠ rg11 ∧ rg10 ≠ rg11 ∧ W.heap.size ≤ rg11 from by rw [hg]; have := blk_lt BS.out; have := blk_lt BI.out; have := blk_lt rB10.out; have := HG.out.size; omega); have HVrB11 := Aside0.mk (show ∀ k, (v8 : Value).ownBlock = some k → k ≠ rg11 from fun k hk => by rw [hg]; exact Nat.ne_of_lt (World.ownsRow.lt HO8.out k hk).2); have n_HG := Aside0.mk (grown_bel HG.out hbk); have n_HO8 := Aside0.mk (OW.below HO8.out hbk); have n_HM := Aside0.mk (And.intro HM.out.1 (Nat.le_trans HM.out.2 hbk.size)); have n_BS := Aside0.mk (blk_below BS.out hbk); have n_BI := Aside0.mk (blk_below BI.out hbk); have n_rB10 := Aside0.mk (blk_below rB10.out hbk); clear HG HO8 HM BS BI rB10; have HG := n_HG; have HO8 := n_HO8; have HM := n_HM; have BS := n_BS; have BI := n_BI; have rB10 := n_rB10; clear n_HG n_HO8 n_HM n_BS n_BI n_rB10; have rB11 := Aside0.mk hbox; clear hbk hbox hg) | ((with_reducible refine gate_store (p := 9) rfl ?_); refine wq_store (ty := 30) (p := .tmp 9) (x := .tmp 34) (g := rg11) (i := 0) (k := 4) (v := ?v25) (vs := ?vs25) (cs' := ?cs25) ?hgd25 ?hdst25 ?ho25 ?hp25 ?hx25 ?hvc25 ?hi25 ?hk25 ?h125 rB11.out ?hsz25 ?hcs25 ?_; (case hi25 => kernel_rfl); (case hgd25 => rfl); (case hdst25 => rfl); (case ho25 => rfl); (case hp25 => rfl); (case hx25 => go_simp; with_reducible rfl); (case hvc25 => simp only [Value.cells]; with_reducible rfl); (case hk25 => rfl); (case h125 => rfl); (case hsz25 => exact Nat.le_of_ble_eq_true rfl); (case hcs25 => simp only [wqPut, List.setIfInBounds_toArray, List.set_cons_succ, List.set_cons_zero, Nat.reduceAdd]; with_reducible rfl); intro rw6_ hb hgr; have n_HG := Aside0.mk (grown_new HG.out hgr HGrB11.out.2.2.2); have n_HO8 := Aside0.mk (OW.grown_ne HO8.out hgr HVrB11.out); have n_HM := Aside0.mk (And.intro HM.out.1 (Nat.le_trans HM.out.2 hgr.size)); have n_BS := Aside0.mk (wq_blk BS.out hgr HGrB11.out.1); have n_BI := Aside0.mk (wq_blk BI.out hgr HGrB11.out.2.1); have n_rB10 := Aside0.mk (wq_blk rB10.out hgr HGrB11.out.2.2.1); have n_rB11 := Aside0.mk hb; clear HG HO8 HM BS BI rB10 rB11 hb hgr; have HG := n_HG; have HO8 := n_HO8; have HM := n_HM; have BS := n_BS; have BI := n_BI; have rB10 := n_rB10; have rB11 := n_rB11; clear n_HG n_HO8 n_HM n_BS n_BI n_rB10 n_rB11) | ((with_reducible refine gate_dst (N := 35) rfl ?_); refine wq_loadA (ty := 44) (p := .tmp 7) (g := rg10) (i := 0) (k := 13) (vs := ?vs26) ?hgd26 ?ho26 ?hp26 Try.underlying44 ?hd26 ?hi26 rB10.out ?hv26 ?hk26 ?_; (case hd26 => rfl); (case hi26 => kernel_rfl); (case hgd26 => rfl); (case ho26 => rfl); (case hp26 => rfl); (case hv26 => simp only [List.drop_succ_cons, List.drop_zero, List.take_succ_cons, List.take_zero, List.take_nil, List.drop_nil]; with_reducible rfl); (case hk26 => rfl)) | ((with_reducible refine gate_dst (N := 36) rfl ?_); refine wq_loadA (ty := 30) (p := .tmp 9) (g := rg11) (i := 0) (k := 4) (vs := ?vs27) ?hgd27 ?ho27 ?hp27 Try.underlying30 ?hd27 ?hi27 rB11.out ?hv27 ?hk27 ?_; (case hd27 => rfl); (case hi27 => kernel_rfl); (case hgd27 => rfl); (case ho27 => rfl); (case hp27 => rfl); (case hv27 => simp only [List.drop_succ_cons, List.drop_zero, List.take_succ_cons, List.take_zero, List.take_nil, List.drop_nil]; with_reducible rfl); (case hk27 => rfl)) | (go_at_call 32; (with_reducible refine (li_tells e A12 c12 HLC.out (apD l e.f5.f0 e.f5.f1) (apV l e.f5.f0 e.f5.f1) _ (Kd.C_below HRC.out (grown_base HB0.out HG.out HZ.out.2))).mono ?_); rintro e ru7_ ⟨rfl, hbk⟩; have n_HG := Aside0.mk (grown_bel HG.out hbk); have n_HO8 := Aside0.mk (OW.below HO8.out hbk); have n_HM := Aside0.mk (And.intro HM.out.1 (Nat.le_trans HM.out.2 hbk.size)); have n_BS := Aside0.mk (blk_below BS.out hbk); have n_BI := Aside0.mk (blk_below BI.out hbk); have n_rB10 := Aside0.mk (blk_below rB10.out hbk); have n_rB11 := Aside0.mk (blk_below rB11.out hbk); clear HG HO8 HM BS BI rB10 rB11; have HG := n_HG; have HO8 := n_HO8; have HM := n_HM; have BS := n_BS; have BI := n_BI; have rB10 := n_rB10; have rB11 := n_rB11; clear n_HG n_HO8 n_HM n_BS n_BI n_rB10 n_rB11; clear hbk) | ((with_reducible refine gate_dst (N := 42) rfl ?_); refine wq_load1 (ty := 41) (p := .tmp 41) (g := gs) (i := 1) (v := ?v29) ?hgd29 ?ho29 ?hp29 Try.underlying41 ?hd29 BS.out ?hv29 ?_; (case hd29 => rfl); (case hgd29 => rfl); (case ho29 => rfl); (case hp29 => rfl); (case hv29 => rfl)) | ((with_reducible refine gate_store (p := 44) rfl ?_); refine wq_store (ty := 4) (p := .tmp 44) (x := .const (.bool true)) (g := gi) (i := i) (k := 1) (v := .bool true) (vs := [.bool true]) (cs' := ((inb.set i true).map Value.bool).toArray) ?hgd30 ?hdst30 ?ho30 ?hp30 ?hx30 ?hvc30 ?hi30 ?hk30 ?h130 BI.out ?hsz30 ?hcs30 ?_; (case hi30 => kernel_rfl); (case hgd30 => rfl); (case hdst30 => rfl); (case ho30 => rfl); (case hp30 => rfl); (case hx30 => rfl); (case hvc30 => rfl); (case hk30 => rfl); (case h130 => rfl); (case hsz30 => have := HIL.out; have := HN.out; simp; omega); (case hcs30 => exact in_put _ _ _); intro rw8_ hb hgr; have n_HG := Aside0.mk (wq_grown_trans HG.out hgr); have n_HO8 := Aside0.mk (OW.grown_ne HO8.out hgr (fun k hk => Nat.ne_of_gt (Nat.lt_of_lt_of_le HM.out.1 (World.ownsRow.lt HO8.out k hk).1))); have n_HM := Aside0.mk (And.intro HM.out.1 (Nat.le_trans HM.out.2 hgr.size)); have n_BS := Aside0.mk (wq_blk BS.out hgr HGBI.out.1); have n_BI := Aside0.mk hb; have n_rB10 := Aside0.mk (wq_blk rB10.out hgr (Ne.symm HGrB10.out.2.1)); have n_rB11 := Aside0.mk (wq_blk rB11.out hgr (Ne.symm HGrB11.out.2.1)); clear HG HO8 HM BS BI rB10 rB11 hb hgr; have HG := n_HG; have HO8 := n_HO8; have HM := n_HM; have BS := n_BS; have BI := n_BI; have rB10 := n_rB10; have rB11 := n_rB11; clear n_HG n_HO8 n_HM n_BS n_BI n_rB10 n_rB11) | (go_at_call 33; (with_reducible refine (li_clip ao turn.length ct HCT.out (by have := HTL.out; have := HH.out; omega) _).mono ?_); rintro e ru9_ ⟨rfl, hq⟩; have hq2 := hq.symm; subst hq2; clear hq) | (refine li_tapp (i := i) (t := turn) (ao := ao) (gi := gi) rfl (.tmp 47) (.tmp 49) rfl rfl rfl (HT.out.grown HG.out) (by have := HTL.out; have := HH.out; omega) (blk_lt BI.out) ?_; intro gt cp rw10_ ht2 hc2 hbk; have n_HT2 := Aside0.mk ht2; have HCP := Aside0.mk hc2; have n_HG := Aside0.mk (grown_bel HG.out hbk); have n_HO8 := Aside0.mk (OW.below HO8.out hbk); have n_HM := Aside0.mk (And.intro HM.out.1 (Nat.le_trans HM.out.2 hbk.size)); have n_BS := Aside0.mk (blk_below BS.out hbk); have n_BI := Aside0.mk (blk_below BI.out hbk); have n_rB10 := Aside0.mk (blk_below rB10.out hbk); have n_rB11 := Aside0.mk (blk_below rB11.out hbk); clear HG HO8 HM BS BI rB10 rB11; have HG := n_HG; have HO8 := n_HO8; have HM := n_HM; have BS := n_BS; have BI := n_BI; have rB10 := n_rB10; have rB11 := n_rB11; clear n_HG n_HO8 n_HM n_BS n_BI n_rB10 n_rB11; clear hbk ht2 hc2; have HT2 := n_HT2; clear n_HT2) | (go_at_call 26; (with_reducible refine (nextLaw_at IH.out (turn.length + 1) (turn ++ [i]) (inb.set i true) (apL l e.f5.f0 e.f5.f1 e.f5.f2) M v8 _ _ _ (by simp) (by rw [List.length_set]; exact HN.out) (by have := HCS.out; have := HCF.out; omega) (by have := HCS.out; have := HTL.out; simp only [List.length_append, List.length_cons, List.length_nil]; omega) (rising_apL _ _ _ HRS.out) (by have := apL_len l e.f5.f0 e.f5.f1 e.f5.f2; have := HLL.out; simp only [List.length_append, List.length_cons, List.length_nil]; omega) (grown_base HB0.out HG.out HZ.out.2) BS.out BI.out HO8.out HM.out.1 HM.out.2 HT2.out HCP.out).mono ?_); intro e0 ru11_ hp; obtain ⟨he0, hbk⟩ := nextPost_none HSR.out hp; subst he0; have n_HG := Aside0.mk (grown_bel HG.out hbk); have n_HO8 := Aside0.mk (OW.below HO8.out hbk); have n_HM := Aside0.mk (And.intro HM.out.1 (Nat.le_trans HM.out.2 hbk.size)); have n_BS := Aside0.mk (blk_below BS.out hbk); have n_BI := Aside0.mk (blk_below BI.out hbk); have n_rB10 := Aside0.mk (blk_below rB10.out hbk); have n_rB11 := Aside0.mk (blk_below rB11.out hbk); clear HG HO8 HM BS BI rB10 rB11; have HG := n_HG; have HO8 := n_HO8; have HM := n_HM; have BS := n_BS; have BI := n_BI; have rB10 := n_rB10; have rB11 := n_rB11; clear n_HG n_HO8 n_HM n_BS n_BI n_rB10 n_rB11; clear hbk hp) | ((with_reducible refine gate_dst (N := 56) rfl ?_); refine wq_load1 (ty := 41) (p := .tmp 55) (g := gs) (i := 1) (v := ?v32) ?hgd32 ?ho32 ?hp32 Try.underlying41 ?hd32 BS.out ?hv32 ?_; (case hd32 => rfl); (case hgd32 => rfl); (case ho32 => rfl); (case hp32 => rfl); (case hv32 => rfl)) | ((with_reducible refine gate_store (p := 58) rfl ?_); refine wq_store (ty := 4) (p := .tmp 58) (x := .const (.bool false)) (g := gi) (i := i) (k := 1) (v := .bool false) (vs := [.bool false]) (cs' := (((inb.set i true).set i false).map Value.bool).toArray) ?hgd33 ?hdst33 ?ho33 ?hp33 ?hx33 ?hvc33 ?hi33 ?hk33 ?h133 BI.out ?hsz33 ?hcs33 ?_; (case hi33 => kernel_rfl); (case hgd33 => rfl); (case hdst33 => rfl); (case ho33 => rfl); (case hp33 => rfl); (case hx33 => rfl); (case hvc33 => rfl); (case hk33 => rfl); (case h133 => rfl); (case hsz33 => have := HIL.out; have := HN.out; simp; omega); (case hcs33 => exact in_put _ _ _); intro rw12_ hb hgr; have n_HG := Aside0.mk (wq_grown_trans HG.out hgr); have n_HO8 := Aside0.mk (OW.grown_ne HO8.out hgr (fun k hk => Nat.ne_of_gt (Nat.lt_of_lt_of_le HM.out.1 (World.ownsRow.lt HO8.out k hk).1))); have n_HM := Aside0.mk (And.intro HM.out.1 (Nat.le_trans HM.out.2 hgr.size)); have n_BS := Aside0.mk (wq_blk BS.out hgr HGBI.out.1); have n_BI := Aside0.mk hb; have n_rB10 := Aside0.mk (wq_blk rB10.out hgr (Ne.symm HGrB10.out.2.1)); have n_rB11 := Aside0.mk (wq_blk rB11.out hgr (Ne.symm HGrB11.out.2.1)); clear HG HO8 HM BS BI rB10 rB11 hb hgr; have HG := n_HG; have HO8 := n_HO8; have HM := n_HM; have BS := n_BS; have BI := n_BI; have rB10 := n_rB10; have rB11 := n_rB11; clear n_HG n_HO8 n_HM n_BS n_BI n_rB10 n_rB11))
              have n_BI := BI.out
              rw [set_back (by have := HIL.out; have := HN.out; omega) HIA.out] at n_BI
              clear BI
              have BI := Aside0.mk n_BI
              clear n_BI
              go_roundg (h.length - (i + 1))
              case measure => have := HIL.out; have := HK.out; omega
              case rel =>
                have hil := HIL.out
                have hh := HH.out
                exact ⟨i + 1, by first | rfl | (rw [show wrap64 ((i : Int) + 1) = ((i + 1 : Nat) : Int) from by unfold wrap64; omega]), ⟨hil⟩, ⟨by omega⟩, ⟨fun j hj => by
                  rcases Nat.lt_or_ge j i with h3 | h3
                  · exact HW.out j h3
                  · have h4 : j = i := by omega
                    subst h4
                    exact (try_on HEQ.out HRD.out HTQ.out).trans HSR.out⟩, BS, BI, HG⟩
            | some t =>
              go_wp2_with (first | ((with_reducible refine gate_dst (N := 23) rfl ?_); refine wq_loadE (ty := 44) (p := .tmp 22) (k := 13) (ad := ad.add (i * 13)) (vs := [.int .i64 e.f0, .int .i64 e.f1, .int .i64 e.f2, .int .i64 e.f3, .int .i64 e.f4, .int .i64 e.f5.f0, .int .u64 e.f5.f1, .int .u64 e.f5.f2, .int .i64 e.f5.f3, .int .i64 e.f6.f0, .bool e.f6.f1, .int .u64 e.f6.f2, .slice A12 e.f6.f3.length c12]) ?hgd34 ?ho34 ?hp34 Try.underlying44 ?hd34 ?hi34 (cells_bel rfl (grown_base HB0.out HG.out HZ.out.2) HE.out) ?hk34 ?_; (case hd34 => rfl); (case hi34 => kernel_rfl); (case hgd34 => rfl); (case ho34 => rfl); (case hp34 => rfl); (case hk34 => rfl)) | ((with_reducible refine gate_dst (N := 7) rfl ?_); refine box_event ?hg35 (N := 7) ?hd35 (cs := #[.int .i64 0, .int .i64 0, .int .i64 0, .int .i64 0, .int .i64 0, .int .i64 0, .int .u64 0, .int .u64 0, .int .i64 0, .int .i64 0, .bool false, .int .u64 0, .slice none 0 0]) (t := 44) ?hr35 ?_; (case hd35 => rfl); (case hg35 => rfl); (case hr35 => first | (go_simp; done) | (go_simp; rfl)); intro sg10 hg sw1_ hbox hbk; have HGsB10 := Aside0.mk (show gs ≠ sg10 ∧ gi ≠ sg10 ∧ W.heap.size ≤ sg10 from by rw [hg]; have := blk_lt BS.out; have := blk_lt BI.out; have := HG.out.size; omega); have n_HG := Aside0.mk (grown_bel HG.out hbk); have n_BS := Aside0.mk (blk_below BS.out hbk); have n_BI := Aside0.mk (blk_below BI.out hbk); clear HG BS BI; have HG := n_HG; have BS := n_BS; have BI := n_BI; clear n_HG n_BS n_BI; have sB10 := Aside0.mk hbox; clear hbk hbox hg) | ((with_reducible refine gate_store (p := 7) rfl ?_); refine wq_store (ty := 44) (p := .tmp 7) (x := .tmp 23) (g := sg10) (i := 0) (k := 13) (v := ?v36) (vs := ?vs36) (cs' := ?cs36) ?hgd36 ?hdst36 ?ho36 ?hp36 ?hx36 ?hvc36 ?hi36 ?hk36 ?h136 sB10.out ?hsz36 ?hcs36 ?_; (case hi36 => kernel_rfl); (case hgd36 => rfl); (case hdst36 => rfl); (case ho36 => rfl); (case hp36 => rfl); (case hx36 => go_simp; with_reducible rfl); (case hvc36 => simp only [Value.cells]; with_reducible rfl); (case hk36 => rfl); (case h136 => rfl); (case hsz36 => exact Nat.le_of_ble_eq_true rfl); (case hcs36 => simp only [wqPut, List.setIfInBounds_toArray, List.set_cons_succ, List.set_cons_zero, Nat.reduceAdd]; with_reducible rfl); intro sw2_ hb hgr; have n_HG := Aside0.mk (grown_new HG.out hgr HGsB10.out.2.2); have n_BS := Aside0.mk (wq_blk BS.out hgr HGsB10.out.1); have n_BI := Aside0.mk (wq_blk BI.out hgr HGsB10.out.2.1); have n_sB10 := Aside0.mk hb; clear HG BS BI sB10 hb hgr; have HG := n_HG; have BS := n_BS; have BI := n_BI; have sB10 := n_sB10; clear n_HG n_BS n_BI n_sB10) | (go_at_call 31; (with_reducible refine (li_ready (some ad) c0 h HH.out gs gi inb HN.out i HIL.out _ (Kd.C_below HR.out (grown_base HB0.out HG.out HZ.out.2)) BS.out BI.out).mono ?_); rintro e su3_ ⟨rfl, hbk⟩; have n_HG := Aside0.mk (grown_bel HG.out hbk); have n_BS := Aside0.mk (blk_below BS.out hbk); have n_BI := Aside0.mk (blk_below BI.out hbk); have n_sB10 := Aside0.mk (blk_below sB10.out hbk); clear HG BS BI sB10; have HG := n_HG; have BS := n_BS; have BI := n_BI; have sB10 := n_sB10; clear n_HG n_BS n_BI n_sB10; clear hbk) | ((with_reducible refine gate_dst (N := 31) rfl ?_); refine wq_loadA (ty := 25) (p := .tmp 30) (g := sg10) (i := 5) (k := 4) (vs := ?vs38) ?hgd38 ?ho38 ?hp38 Try.underlying25 ?hd38 ?hi38 sB10.out ?hv38 ?hk38 ?_; (case hd38 => rfl); (case hi38 => kernel_rfl); (case hgd38 => rfl); (case ho38 => rfl); (case hp38 => rfl); (case hv38 => simp only [List.drop_succ_cons, List.drop_zero, List.take_succ_cons, List.take_zero, List.take_nil, List.drop_nil]; with_reducible rfl); (case hk38 => rfl)) | (go_at_call 9; (with_reducible refine (li_Apply _ _ l e.f5.f0 e.f5.f1 e.f5.f2 e.f5.f3 (by have := HLL.out; have := HTL.out; have := HH.out; omega) HRS.out _ (HOC.out _ (OW.grown HO.out HG.out HGN.out.1))).mono ?_); rintro e su4_ ⟨v8, rfl, ho, hbk⟩; have hNN : ∃ M, gi < M ∧ M ≤ su4_.heap.size ∧ OW su4_ M v8 (apL l e.f5.f0 e.f5.f1 e.f5.f2) := ⟨_, blk_lt BI.out, hbk.size, ho⟩; have n_HG := Aside0.mk (grown_bel HG.out hbk); have n_BS := Aside0.mk (blk_below BS.out hbk); have n_BI := Aside0.mk (blk_below BI.out hbk); have n_sB10 := Aside0.mk (blk_below sB10.out hbk); clear HG BS BI sB10; have HG := n_HG; have BS := n_BS; have BI := n_BI; have sB10 := n_sB10; clear n_HG n_BS n_BI n_sB10; clear hbk ho; obtain ⟨M, n1, n2, n3⟩ := hNN; have HM := Aside0.mk (And.intro n1 n2); have HO8 := Aside0.mk n3; clear n1 n2 n3) | ((with_reducible refine gate_dst (N := 9) rfl ?_); refine box_event ?hg40 (N := 9) ?hd40 (cs := #[.int .i64 0, .bool false, .int .u64 0, .slice none 0 0]) (t := 30) ?hr40 ?_; (case hd40 => rfl); (case hg40 => rfl); (case hr40 => first | (go_simp; done) | (go_simp; rfl)); intro sg11 hg sw5_ hbox hbk; have HGsB11 := Aside0.mk (show gs ≠ sg11 ∧ gi ≠ sg11 ∧ sg10 ≠ sg11 ∧ W.heap.size ≤ sg11 from by rw [hg]; have := blk_lt BS.out; have := blk_lt BI.out; have := blk_lt sB10.out; have := HG.out.size; omega); have HVsB11 := Aside0.mk (show ∀ k, (v8 : Value).ownBlock = some k → k ≠ sg11 from fun k hk => by rw [hg]; exact Nat.ne_of_lt (World.ownsRow.lt HO8.out k hk).2); have n_HG := Aside0.mk (grown_bel HG.out hbk); have n_HO8 := Aside0.mk (OW.below HO8.out hbk); have n_HM := Aside0.mk (And.intro HM.out.1 (Nat.le_trans HM.out.2 hbk.size)); have n_BS := Aside0.mk (blk_below BS.out hbk); have n_BI := Aside0.mk (blk_below BI.out hbk); have n_sB10 := Aside0.mk (blk_below sB10.out hbk); clear HG HO8 HM BS BI sB10; have HG := n_HG; have HO8 := n_HO8; have HM := n_HM; have BS := n_BS; have BI := n_BI; have sB10 := n_sB10; clear n_HG n_HO8 n_HM n_BS n_BI n_sB10; have sB11 := Aside0.mk hbox; clear hbk hbox hg) | ((with_reducible refine gate_store (p := 9) rfl ?_); refine wq_store (ty := 30) (p := .tmp 9) (x := .tmp 34) (g := sg11) (i := 0) (k := 4) (v := ?v41) (vs := ?vs41) (cs' := ?cs41) ?hgd41 ?hdst41 ?ho41 ?hp41 ?hx41 ?hvc41 ?hi41 ?hk41 ?h141 sB11.out ?hsz41 ?hcs41 ?_; (case hi41 => kernel_rfl); (case hgd41 => rfl); (case hdst41 => rfl); (case ho41 => rfl); (case hp41 => rfl); (case hx41 => go_simp; with_reducible rfl); (case hvc41 => simp only [Value.cells]; with_reducible rfl); (case hk41 => rfl); (case h141 => rfl); (case hsz41 => exact Nat.le_of_ble_eq_true rfl); (case hcs41 => simp only [wqPut, List.setIfInBounds_toArray, List.set_cons_succ, List.set_cons_zero, Nat.reduceAdd]; with_reducible rfl); intro sw6_ hb hgr; have n_HG := Aside0.mk (grown_new HG.out hgr HGsB11.out.2.2.2); have n_HO8 := Aside0.mk (OW.grown_ne HO8.out hgr HVsB11.out); have n_HM := Aside0.mk (And.intro HM.out.1 (Nat.le_trans HM.out.2 hgr.size)); have n_BS := Aside0.mk (wq_blk BS.out hgr HGsB11.out.1); have n_BI := Aside0.mk (wq_blk BI.out hgr HGsB11.out.2.1); have n_sB10 := Aside0.mk (wq_blk sB10.out hgr HGsB11.out.2.2.1); have n_sB11 := Aside0.mk hb; clear HG HO8 HM BS BI sB10 sB11 hb hgr; have HG := n_HG; have HO8 := n_HO8; have HM := n_HM; have BS := n_BS; have BI := n_BI; have sB10 := n_sB10; have sB11 := n_sB11; clear n_HG n_HO8 n_HM n_BS n_BI n_sB10 n_sB11) | ((with_reducible refine gate_dst (N := 35) rfl ?_); refine wq_loadA (ty := 44) (p := .tmp 7) (g := sg10) (i := 0) (k := 13) (vs := ?vs42) ?hgd42 ?ho42 ?hp42 Try.underlying44 ?hd42 ?hi42 sB10.out ?hv42 ?hk42 ?_; (case hd42 => rfl); (case hi42 => kernel_rfl); (case hgd42 => rfl); (case ho42 => rfl); (case hp42 => rfl); (case hv42 => simp only [List.drop_succ_cons, List.drop_zero, List.take_succ_cons, List.take_zero, List.take_nil, List.drop_nil]; with_reducible rfl); (case hk42 => rfl)) | ((with_reducible refine gate_dst (N := 36) rfl ?_); refine wq_loadA (ty := 30) (p := .tmp 9) (g := sg11) (i := 0) (k := 4) (vs := ?vs43) ?hgd43 ?ho43 ?hp43 Try.underlying30 ?hd43 ?hi43 sB11.out ?hv43 ?hk43 ?_; (case hd43 => rfl); (case hi43 => kernel_rfl); (case hgd43 => rfl); (case ho43 => rfl); (case hp43 => rfl); (case hv43 => simp only [List.drop_succ_cons, List.drop_zero, List.take_succ_cons, List.take_zero, List.take_nil, List.drop_nil]; with_reducible rfl); (case hk43 => rfl)) | (go_at_call 32; (with_reducible refine (li_tells e A12 c12 HLC.out (apD l e.f5.f0 e.f5.f1) (apV l e.f5.f0 e.f5.f1) _ (Kd.C_below HRC.out (grown_base HB0.out HG.out HZ.out.2))).mono ?_); rintro e su7_ ⟨rfl, hbk⟩; have n_HG := Aside0.mk (grown_bel HG.out hbk); have n_HO8 := Aside0.mk (OW.below HO8.out hbk); have n_HM := Aside0.mk (And.intro HM.out.1 (Nat.le_trans HM.out.2 hbk.size)); have n_BS := Aside0.mk (blk_below BS.out hbk); have n_BI := Aside0.mk (blk_below BI.out hbk); have n_sB10 := Aside0.mk (blk_below sB10.out hbk); have n_sB11 := Aside0.mk (blk_below sB11.out hbk); clear HG HO8 HM BS BI sB10 sB11; have HG := n_HG; have HO8 := n_HO8; have HM := n_HM; have BS := n_BS; have BI := n_BI; have sB10 := n_sB10; have sB11 := n_sB11; clear n_HG n_HO8 n_HM n_BS n_BI n_sB10 n_sB11; clear hbk) | ((with_reducible refine gate_dst (N := 42) rfl ?_); refine wq_load1 (ty := 41) (p := .tmp 41) (g := gs) (i := 1) (v := ?v45) ?hgd45 ?ho45 ?hp45 Try.underlying41 ?hd45 BS.out ?hv45 ?_; (case hd45 => rfl); (case hgd45 => rfl); (case ho45 => rfl); (case hp45 => rfl); (case hv45 => rfl)) | ((with_reducible refine gate_store (p := 44) rfl ?_); refine wq_store (ty := 4) (p := .tmp 44) (x := .const (.bool true)) (g := gi) (i := i) (k := 1) (v := .bool true) (vs := [.bool true]) (cs' := ((inb.set i true).map Value.bool).toArray) ?hgd46 ?hdst46 ?ho46 ?hp46 ?hx46 ?hvc46 ?hi46 ?hk46 ?h146 BI.out ?hsz46 ?hcs46 ?_; (case hi46 => kernel_rfl); (case hgd46 => rfl); (case hdst46 => rfl); (case ho46 => rfl); (case hp46 => rfl); (case hx46 => rfl); (case hvc46 => rfl); (case hk46 => rfl); (case h146 => rfl); (case hsz46 => have := HIL.out; have := HN.out; simp; omega); (case hcs46 => exact in_put _ _ _); intro sw8_ hb hgr; have n_HG := Aside0.mk (wq_grown_trans HG.out hgr); have n_HO8 := Aside0.mk (OW.grown_ne HO8.out hgr (fun k hk => Nat.ne_of_gt (Nat.lt_of_lt_of_le HM.out.1 (World.ownsRow.lt HO8.out k hk).1))); have n_HM := Aside0.mk (And.intro HM.out.1 (Nat.le_trans HM.out.2 hgr.size)); have n_BS := Aside0.mk (wq_blk BS.out hgr HGBI.out.1); have n_BI := Aside0.mk hb; have n_sB10 := Aside0.mk (wq_blk sB10.out hgr (Ne.symm HGsB10.out.2.1)); have n_sB11 := Aside0.mk (wq_blk sB11.out hgr (Ne.symm HGsB11.out.2.1)); clear HG HO8 HM BS BI sB10 sB11 hb hgr; have HG := n_HG; have HO8 := n_HO8; have HM := n_HM; have BS := n_BS; have BI := n_BI; have sB10 := n_sB10; have sB11 := n_sB11; clear n_HG n_HO8 n_HM n_BS n_BI n_sB10 n_sB11) | (go_at_call 33; (with_reducible refine (li_clip ao turn.length ct HCT.out (by have := HTL.out; have := HH.out; omega) _).mono ?_); rintro e su9_ ⟨rfl, hq⟩; have hq2 := hq.symm; subst hq2; clear hq) | (refine li_tapp (i := i) (t := turn) (ao := ao) (gi := gi) rfl (.tmp 47) (.tmp 49) rfl rfl rfl (HT.out.grown HG.out) (by have := HTL.out; have := HH.out; omega) (blk_lt BI.out) ?_; intro gt cp sw10_ ht2 hc2 hbk; have n_HT2 := Aside0.mk ht2; have HCP := Aside0.mk hc2; have n_HG := Aside0.mk (grown_bel HG.out hbk); have n_HO8 := Aside0.mk (OW.below HO8.out hbk); have n_HM := Aside0.mk (And.intro HM.out.1 (Nat.le_trans HM.out.2 hbk.size)); have n_BS := Aside0.mk (blk_below BS.out hbk); have n_BI := Aside0.mk (blk_below BI.out hbk); have n_sB10 := Aside0.mk (blk_below sB10.out hbk); have n_sB11 := Aside0.mk (blk_below sB11.out hbk); clear HG HO8 HM BS BI sB10 sB11; have HG := n_HG; have HO8 := n_HO8; have HM := n_HM; have BS := n_BS; have BI := n_BI; have sB10 := n_sB10; have sB11 := n_sB11; clear n_HG n_HO8 n_HM n_BS n_BI n_sB10 n_sB11; clear hbk ht2 hc2; have HT2 := n_HT2; clear n_HT2) | (go_at_call 26; (with_reducible refine (nextLaw_at IH.out (turn.length + 1) (turn ++ [i]) (inb.set i true) (apL l e.f5.f0 e.f5.f1 e.f5.f2) M v8 _ _ _ (by simp) (by rw [List.length_set]; exact HN.out) (by have := HCS.out; have := HCF.out; omega) (by have := HCS.out; have := HTL.out; simp only [List.length_append, List.length_cons, List.length_nil]; omega) (rising_apL _ _ _ HRS.out) (by have := apL_len l e.f5.f0 e.f5.f1 e.f5.f2; have := HLL.out; simp only [List.length_append, List.length_cons, List.length_nil]; omega) (grown_base HB0.out HG.out HZ.out.2) BS.out BI.out HO8.out HM.out.1 HM.out.2 HT2.out HCP.out).mono ?_); intro e0 su11_ hp; obtain ⟨ao2, c2, he0, hc2, hgr2, ht3⟩ := nextPost_some HSR.out hp; subst he0; have HC2 := Aside0.mk hc2; have HT3 := Aside0.mk ht3; have n_HG := Aside0.mk (wq_grown_trans HG.out hgr2); clear HG BS BI; have HG := n_HG; clear n_HG hp hc2 ht3 hgr2))
              exact ⟨rfl, nextPost_mk1 ((srch_try HWH.out).trans (findSome_some HIL.out HW.out ((try_on HEQ.out HRD.out HTQ.out).trans HSR.out))) HC2.out HG.out HT3.out⟩
      · have hnlt : ¬ ((i : Int) < (h.length : Int)) := by omega
        have hii : i = h.length := by have := HJ.out; omega
        subst hii
        clear hil
        go_wp2
        exact bodyPost_end (results_none rfl _ _ _) rfl (nextPost_mk0 ((srch_try HWH.out).trans (findSome_none HW.out)) (grown_back HG.out BI0.out BI.out))
  · have HWH := Aside0.mk hwh
    go_enter Try.func26, Try.ntmps26
    go_wp2_with (first | (go_at_call 30; (with_reducible refine (li_whole A c0 h HH.out gs gi inb HN.out _ (Kd.C_below HR.out (grown_base HB0.out HG.out HZ.out.2)) BS.out BI.out).mono ?_); rintro e cu1_ ⟨rfl, hbk⟩; have n_HG := Aside0.mk (grown_bel HG.out hbk); have n_BS := Aside0.mk (blk_below BS.out hbk); have n_BI := Aside0.mk (blk_below BI.out hbk); clear HG BS BI; have HG := n_HG; have BS := n_BS; have BI := n_BI; clear n_HG n_BS n_BI; clear hbk))
    exact ⟨rfl, nextPost_mk1 (srch_whole HWH.out) HCT.out HG.out (HT.out.grown HG.out)⟩



/-! ### lin_Order: function 14 (by hand) -/
theorem blk_farq {w : World} {g k i : Nat} {o : Obj} (h : w.heap[k]? = some o) (hne : k ≠ g) (v : Value) : (w.setCell ⟨g, i, none⟩ v).heap[k]? = some o := (Below.heap_setCell w ⟨g, i, none⟩ v k hne).trans h
set_option maxHeartbeats 8000000 in
set_option maxRecDepth 100000 in
theorem li_catch (g2 g3 : Nat) (hne : g2 ≠ g3) (ao : Option Addr) (n c : Nat) (x y : Value) (w : World) (h2 : w.heap[g2]? = some (.cells #[x] 38 (0, 0))) (h3 : w.heap[g3]? = some (.cells #[y] 4 (0, 0))) :
    CallsD Try.prog 25 #[.pointer (some ⟨g2, 0, none⟩), .pointer (some ⟨g3, 0, none⟩)] (.panicking [{ v := .iface 61 (.slice ao n c), recovered := false }]) w fun e u' w' =>
      e = .returned (.tuple #[]) ∧ u' = .panicking [{ v := .iface 61 (.slice ao n c), recovered := true }] ∧ w' = (w.setCell ⟨g2, 0, none⟩ (.slice ao n c)).setCell ⟨g3, 0, none⟩ (.bool true) := by
  have c2 : w.cell? ⟨g2, 0, none⟩ = some x := (blk_cell h2 0).trans rfl
  have f2 : w.frozen? ⟨g2, 0, none⟩ = false := blk_frozen h2 0
  have h3' := blk_farq (i := 0) h3 (Ne.symm hne) (.slice ao n c)
  have c3 : (w.setCell ⟨g2, 0, none⟩ (.slice ao n c)).cell? ⟨g3, 0, none⟩ = some y := (blk_cell h3' 0).trans rfl
  have f3 : (w.setCell ⟨g2, 0, none⟩ (.slice ao n c)).frozen? ⟨g3, 0, none⟩ = false := blk_frozen h3' 0
  refine callsD_of_wpS Try.func25 rfl fun c₀ cs hu => ?_
  have hrep : Array.replicate 10 undef = #[undef, undef, undef, undef, undef, undef, undef, undef, undef, undef] := rfl
  have hta : ∀ w : World, (Instr.typeAssert (.iface 61 (.slice ao n c)) 20 61 true).run Try.prog w = .ok (.tuple #[.slice ao n c, .bool true]) w := fun _ => by rfl
  apply wpS_seq
  apply wpS_region
  simp [wpOpsS, go_sem, recoverD, hu, Try.ntmps25, Exit.thenS, hrep]
  refine wpS_of_wp ?_
  go_wp2
  simp [bodyPostS, results, Try.results25]
set_option maxHeartbeats 8000000 in
set_option maxRecDepth 100000 in
theorem li_idle (g2 g3 : Nat) (w : World) :
    CallsD Try.prog 25 #[.pointer (some ⟨g2, 0, none⟩), .pointer (some ⟨g3, 0, none⟩)] .returning w fun e u' w' => e = .returned (.tuple #[]) ∧ u' = .returning ∧ w' = w := by
  have hrep : Array.replicate 10 undef = #[undef, undef, undef, undef, undef, undef, undef, undef, undef, undef] := rfl
  refine callsD_of_wpS Try.func25 rfl fun c₀ cs hu => ?_
  apply wpS_seq
  apply wpS_region
  simp [wpOpsS, go_sem, recoverD, hu, Try.ntmps25, Exit.thenS, hrep]
  refine wpS_of_wp ?_
  go_wp2
  cases c₀
  simp_all [bodyPostS, results, Try.results25]
theorem li_binfo : (Try.prog.info? 4).map (fun i => (i.zero, i.size, i.bytes)) = some (some (.bool false), 1, 1) := by kernel_rfl
theorem made_bools (n : Nat) : madeCells #[.bool false] (n * 1) = ((List.replicate n false).map Value.bool).toArray := by
  apply Array.ext
  · simp [madeCells]
  · intro i h1 h2
    simp [madeCells, Nat.mod_one]
theorem li_mkbool {ops : Array Oper} {rest : List Oper} {o : Oper} {a : Act} {Q : Exit → Act → World → Prop} (hgd : o.guard = none) {x y : Operand} (ho : o.op = .makeSlice 41 x y) {w : World} (n : Nat) (hn : n ≤ 1000) (hx : a.eval x = .int .i64 (n : Int)) (hy : a.eval y = .int .i64 (n : Int))
    (h : ∀ g, g = w.heap.size → ∀ w1, w1.heap[g]? = some (.cells ((List.replicate n false).map Value.bool).toArray 4 (0, 0)) → Below w.heap.size w w1 → wpList Try.prog ops Q rest (a.put o.dst (.slice (some ⟨g, 0, none⟩) n n)) w1) : wpList Try.prog ops Q (o :: rest) a w := by
  obtain ⟨i0, hi, hz0, hz1, hz2⟩ := info_parts li_binfo
  have hr := run_make (P := Try.prog) w 41 4 i0 (.bool false) Try.underlying41 hi hz0 .i64 .i64 (n : Int) (n : Int) (by omega) (by omega) (by rw [hz2]; omega) (by omega)
  rw [hz1, Int.toNat_natCast] at hr
  have e : (Value.bool false).cells = #[.bool false] := rfl
  rw [e, made_bools] at hr
  refine wpList_plain hgd fun K hK => ?_
  unfold Oper.wp
  have hr2 : (execOp a.eval o).run Try.prog w = .ok (.value (.slice (some ⟨w.heap.size, 0, none⟩) n n)) (w.alloc (.cells ((List.replicate n false).map Value.bool).toArray 4)) := by
    unfold execOp
    simp [ho, hx, hy, Sem.run_bind, hr]
  rw [hr2]
  exact hK _ _ (h _ rfl _ (blk_new w _) (below_alloc (Below.refl _ _) _))
def aggd : TypeDesc → Bool
  | .struct _ => true
  | .array _ _ => true
  | _ => false
theorem res_cc {P : Program} {fn : Func} {p q : Tmp} {t1 t2 : TypeId} (h : fn.results = #[.cell p t1, .cell q t2]) (tmps : Array Value) (w : World) {g1 g2 : Nat} {u1 u2 : TypeId} {v1 v2 : Value} {d1 d2 : TypeDesc}
    (hp : tmps.getD p undef = .pointer (some ⟨g1, 0, none⟩)) (hq : tmps.getD q undef = .pointer (some ⟨g2, 0, none⟩)) (h1 : w.heap[g1]? = some (.cells #[v1] u1 (0, 0))) (h2 : w.heap[g2]? = some (.cells #[v2] u2 (0, 0)))
    (hu1 : P.underlying t1 = some d1) (hd1 : aggd d1 = false) (hu2 : P.underlying t2 = some d2) (hd2 : aggd d2 = false) :
    (results fn tmps).run P w = .ok (.tuple #[v1, v2]) w := by
  have one : ∀ {g : Nat} {u t : TypeId} {v : Value} {d : TypeDesc}, w.heap[g]? = some (.cells #[v] u (0, 0)) → P.underlying t = some d → aggd d = false → (loadVar t ⟨g, 0, none⟩).run P w = .ok v w := by
    intro g u t v d hb hu hd
    have hagg : (isAgg t).run P w = .ok false w := by
      unfold isAgg
      rw [Sem.run_bind, run_underlying hu w]
      cases d <;> simp_all [aggd]
    have hc : w.cell? ⟨g, 0, none⟩ = some v := (blk_cell hb 0).trans rfl
    simp [loadVar, Sem.run_bind, hagg, load, Sem.run, hc]
  have hp' : tmps[p]?.getD undef = .pointer (some ⟨g1, 0, none⟩) := by simpa using hp
  have hq' : tmps[q]?.getD undef = .pointer (some ⟨g2, 0, none⟩) := by simpa using hq
  simp [results, h, hp', hq', asAddr, one h1 hu1 hd1, one h2 hu2 hd2]
/-- the turn, as a row of numbers -/
theorem ints_C {w : World} {gi : Nat} {ao : Option Addr} {t : List Nat} (h : TR gi w ao t) (hl : t.length ≤ 1000000) : Kd.C (Kd.int .i64) w ao t.length (t.map fun n => ((n : Nat) : Int)) := by
  refine ⟨?_, ?_, fun hp => ?_⟩
  · rw [List.length_map]
  · first | omega | (rw [List.length_map]; omega)
  cases ao with
  | none =>
    rw [h.1 rfl] at hp
    exact absurd hp (by simp)
  | some b =>
    refine ⟨b, rfl, fun j p hj => ⟨[.int .i64 p], rfl, rfl, fun i u hu => ?_⟩⟩
    have hi : i = 0 := by have := (List.getElem?_eq_some_iff.1 hu).1; simp at this; exact this
    subst hi
    have hu2 : u = .int .i64 p := by simpa using hu.symm
    subst hu2
    have key := (h.2 b rfl (j * 1 + 0) (.int .i64 p) (by simpa [tints] using hj)).2
    exact key

theorem li_next (W0 : World) (A : Option Addr) (c0 : Nat) (h : List S44) (gs gi : Nat) (hh : h.length ≤ 1000) (hr : Kd.C k44 W0 A h.length h) (hne : gs ≠ gi) (hz : W0.heap.size ≤ gi) : ∀ f, NextLaw W0 A c0 h gs gi f
  | 0 => fun turn inb l N vl ao ct W h1 h2 => absurd h2 (Nat.not_lt_zero _)
  | f + 1 => li_next_step W0 A c0 h gs gi hh hr hne hz f (li_next W0 A c0 h gs gi hh hr hne hz f)
theorem srch_len (h : List S44) : ∀ (f : Nat) (turn : List Nat) (inb : List Bool) (l : List S53) (t : List Nat), inb.length = h.length → srch h f turn inb l = some t → t.length ≤ turn.length + inb.count false
  | 0, turn, inb, l, t, hin, hs => by rw [srch] at hs; cases hs
  | f + 1, turn, inb, l, t, hin, hs => by
    cases hw : wholeP h inb with
    | true =>
      rw [srch_whole hw] at hs
      cases hs
      omega
    | false =>
      rw [srch_try hw] at hs
      obtain ⟨n, hn, hg⟩ := List.exists_of_findSome?_eq_some hs
      rw [List.mem_range] at hn
      unfold try1 at hg
      simp only at hg
      split at hg
      · rename_i hrd
        split at hg
        · have h1 := srch_len h f _ _ _ t (by rw [List.length_set]; exact hin) hg
          have h2 := count_set (inb := inb) (by omega) (ready_in hrd).1
          simp only [List.length_append, List.length_cons, List.length_nil] at h1
          omega
        · cases hg
      · cases hg
def orderP (h : List S44) : Option (List Nat) := srch h (h.length + 1) [] (List.replicate h.length false) []
def turnP (h : List S44) : List Nat := (orderP h).getD []
theorem turnP_len (h : List S44) : (turnP h).length ≤ h.length := by
  unfold turnP
  cases hs : orderP h with
  | none => simp
  | some t =>
    have := srch_len h _ _ _ _ t (by simp) hs
    simpa using this
theorem li_first (W0 : World) (A : Option Addr) (c0 : Nat) (h : List S44) (gs gi : Nat) (hh : h.length ≤ 1000) (hr : Kd.C k44 W0 A h.length h) (hne : gs ≠ gi) (hz : W0.heap.size ≤ gi) (W : World) (hb : Below W0.heap.size W0 W) (hs : W.heap[gs]? = some (.cells #[.slice A h.length c0, .slice (some ⟨gi, 0, none⟩) h.length h.length] 64 (0, 0))) (hi : W.heap[gi]? = some (.cells ((List.replicate h.length false).map Value.bool).toArray 4 (0, 0))) :
    Calls Try.prog 26 #[.pointer (some ⟨gs, 0, none⟩), .slice none 0 0, .slice none 0 0] W (NextPost (srch h (h.length + 1) [] (List.replicate h.length false) []) gi W) :=
  nextLaw_at (li_next W0 A c0 h gs gi hh hr hne hz (h.length + 1)) 0 [] (List.replicate h.length false) [] W.heap.size (.slice none 0 0) none 0 W rfl (by simp) (by simp) (by simp) List.Pairwise.nil (Nat.le_refl _) hb hs hi (OW.nil _ _) (blk_lt hi) (Nat.le_refl _) (TR.nil _ _) (Nat.le_refl _)
def OrderPost (h : List S44) (W : World) (e : Ending) (w' : World) : Prop :=
  ∃ ao c, e = .returned (.tuple #[.slice ao (turnP h).length c, .bool (orderP h).isSome]) ∧ (turnP h).length ≤ c ∧ Kd.C (Kd.int .i64) w' ao (turnP h).length ((turnP h).map fun n => ((n : Nat) : Int)) ∧ Below W.heap.size W w'
theorem order_end {w : World} {g1 g2 gi n c : Nat} {ao : Option Addr} {t : List Nat} {x y : Value} (h1 : w.heap[g1]? = some (.cells #[x] 38 (0, 0))) (h2 : w.heap[g2]? = some (.cells #[y] 4 (0, 0))) (hne : g1 ≠ g2) (hT : TR gi w ao t) (l1 : g1 < gi) (l2 : g2 < gi) {W : World} (hb : Below W.heap.size W w) (m1 : W.heap.size ≤ g1) (m2 : W.heap.size ≤ g2) :
    ∃ w2, w2 = (w.setCell ⟨g1, 0, none⟩ (.slice ao n c)).setCell ⟨g2, 0, none⟩ (.bool true) ∧ w2.heap[g1]? = some (.cells #[.slice ao n c] 38 (0, 0)) ∧ w2.heap[g2]? = some (.cells #[.bool true] 4 (0, 0)) ∧ TR gi w2 ao t ∧ Below W.heap.size W w2 := by
  refine ⟨_, rfl, ?_, ?_, ?_, ?_⟩
  · exact blk_farq (i := 0) (heap_setCell_same w g1 0 #[x] 38 (.slice ao n c) h1) hne _
  · exact heap_setCell_same _ g2 0 #[y] 4 (.bool true) (blk_farq (i := 0) h2 (Ne.symm hne) _)
  · refine ⟨hT.1, fun b e j u hj => ?_⟩
    have hx := hT.2 b e j u hj
    refine ⟨hx.1, (cell_block ?_).trans hx.2⟩
    rw [add_block]
    exact (Below.heap_setCell _ ⟨g2, 0, none⟩ _ _ (by show b.block ≠ g2; omega)).trans (Below.heap_setCell _ ⟨g1, 0, none⟩ _ _ (by show b.block ≠ g1; omega))
  · exact (hb.setCell m1 _).setCell m2 _
set_option maxHeartbeats 8000000 in
set_option maxRecDepth 100000 in
theorem li_order_none (A : Option Addr) (c0 : Nat) (h : List S44) (hh : h.length ≤ 1000) (hs : orderP h = none) (W : World) (hr : Kd.C k44 W A h.length h) :
    Calls Try.prog 14 #[.slice A h.length c0] W (OrderPost h W) := by
  have HR := Aside0.mk hr
  have HH := Aside0.mk hh
  have HSR := Aside0.mk (show srch h (h.length + 1) [] (List.replicate h.length false) [] = none from hs)
  have HO := Aside0.mk hs
  have HB := Aside0.mk (Below.refl W.heap.size W)
  have hhb : (h.length : Int) ≤ 1000 := by omega
  clear hr hh hs
  have hmf : ∀ (fn : Fn) (first cap : Array Value) (w : World), (Instr.makeFunc fn first cap).run Try.prog w = .ok (.func fn first cap) w := fun _ _ _ _ => rfl
  go_enter_defers Try.func14, Try.ntmps14
  go_wp2_with (first | ((with_reducible refine gate_dst (N := 2) rfl ?_); refine box_event ?hg1 (N := 2) ?hd1 (cs := #[.slice none 0 0]) (t := 38) ?hr1 ?_; (case hd1 => rfl); (case hg1 => rfl); (case hr1 => first | (go_simp; done) | (go_simp; rfl)); intro g1 hg w1_ hbox hbk; have HGB1 := Aside0.mk (show W.heap.size ≤ g1 from by rw [hg]; have := HB.out.size; omega); have n_HB := Aside0.mk (below_step HB.out hbk); clear HB; have HB := n_HB; clear n_HB; have B1 := Aside0.mk hbox; clear hbk hbox hg) | ((with_reducible refine gate_dst (N := 3) rfl ?_); refine box_event ?hg2 (N := 3) ?hd2 (cs := #[.bool false]) (t := 4) ?hr2 ?_; (case hd2 => rfl); (case hg2 => rfl); (case hr2 => first | (go_simp; done) | (go_simp; rfl)); intro g2 hg w2_ hbox hbk; have HGB2 := Aside0.mk (show g1 ≠ g2 ∧ W.heap.size ≤ g2 from by rw [hg]; have := blk_lt B1.out; have := HB.out.size; omega); have n_HB := Aside0.mk (below_step HB.out hbk); have n_B1 := Aside0.mk (blk_below B1.out hbk); clear HB B1; have HB := n_HB; have B1 := n_B1; clear n_HB n_B1; have B2 := Aside0.mk hbox; clear hbk hbox hg) | (refine li_mkbool (x := .tmp 8) (y := .tmp 8) rfl rfl h.length HH.out rfl rfl ?_; intro gi hg w3_ hbox hbk; have HGBI := Aside0.mk (show g1 ≠ gi ∧ g2 ≠ gi ∧ W.heap.size ≤ gi from by rw [hg]; have := blk_lt B1.out; have := blk_lt B2.out; have := HB.out.size; omega); have HLT := Aside0.mk (show g1 < gi ∧ g2 < gi from by rw [hg]; exact ⟨blk_lt B1.out, blk_lt B2.out⟩); have n_HB := Aside0.mk (below_step HB.out hbk); have n_B1 := Aside0.mk (blk_below B1.out hbk); have n_B2 := Aside0.mk (blk_below B2.out hbk); clear HB B1 B2; have HB := n_HB; have B1 := n_B1; have B2 := n_B2; clear n_HB n_B1 n_B2; have BI := Aside0.mk hbox; clear hbk hbox hg) | ((with_reducible refine gate_dst (N := 11) rfl ?_); refine box_event ?hg3 (N := 11) ?hd3 (cs := #[.slice A h.length c0, .slice (some ⟨gi, 0, none⟩) h.length h.length]) (t := 64) ?hr3 ?_; (case hd3 => rfl); (case hg3 => rfl); (case hr3 => first | (go_simp; done) | (go_simp; rfl)); intro g3 hg w4_ hbox hbk; have HGB3 := Aside0.mk (show g1 ≠ g3 ∧ g2 ≠ g3 ∧ gi ≠ g3 ∧ W.heap.size ≤ g3 from by rw [hg]; have := blk_lt B1.out; have := blk_lt B2.out; have := blk_lt BI.out; have := HB.out.size; omega); have n_HB := Aside0.mk (below_step HB.out hbk); have n_B1 := Aside0.mk (blk_below B1.out hbk); have n_B2 := Aside0.mk (blk_below B2.out hbk); have n_BI := Aside0.mk (blk_below BI.out hbk); clear HB B1 B2 BI; have HB := n_HB; have B1 := n_B1; have B2 := n_B2; have BI := n_BI; clear n_HB n_B1 n_B2 n_BI; have B3 := Aside0.mk hbox; clear hbk hbox hg) | (go_at_call 26; (with_reducible refine (li_first W A c0 h g3 gi HH.out HR.out (Ne.symm HGB3.out.2.2.1) HGBI.out.2.2 _ HB.out B3.out BI.out).mono ?_); intro e0 u5_ hp; obtain ⟨he0, hbk⟩ := nextPost_none HSR.out hp; subst he0; have n_HB := Aside0.mk (below_step HB.out hbk); have n_B1 := Aside0.mk (blk_below B1.out hbk); have n_B2 := Aside0.mk (blk_below B2.out hbk); have n_BI := Aside0.mk (blk_below BI.out hbk); have n_B3 := Aside0.mk (blk_below B3.out hbk); clear HB B1 B2 BI B3; have HB := n_HB; have B1 := n_B1; have B2 := n_B2; have BI := n_BI; have B3 := n_B3; clear n_HB n_B1 n_B2 n_BI n_B3; clear hbk hp) | ((with_reducible refine gate_store (p := 2) rfl ?_); refine wq_store (ty := 38) (p := .tmp 2) (x := (Operand.const (Value.slice none 0 0))) (g := g1) (i := 0) (k := 1) (v := ?v4) (vs := ?vs4) (cs' := ?cs4) ?hgd4 ?hdst4 ?ho4 ?hp4 ?hx4 ?hvc4 ?hi4 ?hk4 ?h14 B1.out ?hsz4 ?hcs4 ?_; (case hi4 => kernel_rfl); (case hgd4 => rfl); (case hdst4 => rfl); (case ho4 => rfl); (case hp4 => rfl); (case hx4 => go_simp; with_reducible rfl); (case hvc4 => simp only [Value.cells]; with_reducible rfl); (case hk4 => rfl); (case h14 => rfl); (case hsz4 => exact Nat.le_of_ble_eq_true rfl); (case hcs4 => simp only [wqPut, List.setIfInBounds_toArray, List.set_cons_succ, List.set_cons_zero, Nat.reduceAdd]; with_reducible rfl); intro w6_ hb hgr; have n_HB := Aside0.mk (HB.out.grown hgr HB.out.size (fun k hk => by cases hk; exact HGB1.out)); have n_B1 := Aside0.mk hb; have n_B2 := Aside0.mk (wq_blk B2.out hgr (Ne.symm HGB2.out.1)); have n_BI := Aside0.mk (wq_blk BI.out hgr (Ne.symm HGBI.out.1)); have n_B3 := Aside0.mk (wq_blk B3.out hgr (Ne.symm HGB3.out.1)); clear HB B1 B2 BI B3 hb hgr; have HB := n_HB; have B1 := n_B1; have B2 := n_B2; have BI := n_BI; have B3 := n_B3; clear n_HB n_B1 n_B2 n_BI n_B3) | ((with_reducible refine gate_store (p := 3) rfl ?_); refine wq_store (ty := 4) (p := .tmp 3) (x := (Operand.const (Value.bool false))) (g := g2) (i := 0) (k := 1) (v := ?v5) (vs := ?vs5) (cs' := ?cs5) ?hgd5 ?hdst5 ?ho5 ?hp5 ?hx5 ?hvc5 ?hi5 ?hk5 ?h15 B2.out ?hsz5 ?hcs5 ?_; (case hi5 => kernel_rfl); (case hgd5 => rfl); (case hdst5 => rfl); (case ho5 => rfl); (case hp5 => rfl); (case hx5 => go_simp; with_reducible rfl); (case hvc5 => simp only [Value.cells]; with_reducible rfl); (case hk5 => rfl); (case h15 => rfl); (case hsz5 => exact Nat.le_of_ble_eq_true rfl); (case hcs5 => simp only [wqPut, List.setIfInBounds_toArray, List.set_cons_succ, List.set_cons_zero, Nat.reduceAdd]; with_reducible rfl); intro w7_ hb hgr; have n_HB := Aside0.mk (HB.out.grown hgr HB.out.size (fun k hk => by cases hk; exact HGB2.out.2)); have n_B1 := Aside0.mk (wq_blk B1.out hgr HGB2.out.1); have n_B2 := Aside0.mk hb; have n_BI := Aside0.mk (wq_blk BI.out hgr (Ne.symm HGBI.out.2.1)); have n_B3 := Aside0.mk (wq_blk B3.out hgr (Ne.symm HGB3.out.2.1)); clear HB B1 B2 BI B3 hb hgr; have HB := n_HB; have B1 := n_B1; have B2 := n_B2; have BI := n_BI; have B3 := n_B3; clear n_HB n_B1 n_B2 n_BI n_B3))
  refine leaves_cons (f := 25) (args := #[.pointer (some ⟨g1, 0, none⟩), .pointer (some ⟨g2, 0, none⟩)]) (by simp) (by simp [go_sem]) ?_
  refine (li_idle g1 g2 _).mono ?_
  rintro e u' w'' ⟨rfl, rfl, rfl⟩
  refine ⟨_, res_cc rfl _ _ (by rfl) (by rfl) B1.out B2.out Try.underlying38 rfl Try.underlying4 rfl, ?_⟩
  have ht : turnP h = [] := by unfold turnP; rw [HO.out]; rfl
  unfold OrderPost
  rw [ht, HO.out]
  exact ⟨none, 0, rfl, Nat.le_refl _, Kd.C_nil _ _, HB.out⟩
set_option maxHeartbeats 8000000 in
set_option maxRecDepth 100000 in
theorem li_order_some (A : Option Addr) (c0 : Nat) (h : List S44) (hh : h.length ≤ 1000) (t : List Nat) (hs : orderP h = some t) (W : World) (hr : Kd.C k44 W A h.length h) :
    Calls Try.prog 14 #[.slice A h.length c0] W (OrderPost h W) := by
  have HR := Aside0.mk hr
  have HH := Aside0.mk hh
  have HSR := Aside0.mk (show srch h (h.length + 1) [] (List.replicate h.length false) [] = some t from hs)
  have HO := Aside0.mk hs
  have HB := Aside0.mk (Below.refl W.heap.size W)
  have hhb : (h.length : Int) ≤ 1000 := by omega
  clear hr hh hs
  have hmf : ∀ (fn : Fn) (first cap : Array Value) (w : World), (Instr.makeFunc fn first cap).run Try.prog w = .ok (.func fn first cap) w := fun _ _ _ _ => rfl
  go_enter_defers Try.func14, Try.ntmps14
  go_wp2_with (first | ((with_reducible refine gate_dst (N := 2) rfl ?_); refine box_event ?hg6 (N := 2) ?hd6 (cs := #[.slice none 0 0]) (t := 38) ?hr6 ?_; (case hd6 => rfl); (case hg6 => rfl); (case hr6 => first | (go_simp; done) | (go_simp; rfl)); intro g1 hg w1_ hbox hbk; have HGB1 := Aside0.mk (show W.heap.size ≤ g1 from by rw [hg]; have := HB.out.size; omega); have n_HB := Aside0.mk (below_step HB.out hbk); clear HB; have HB := n_HB; clear n_HB; have B1 := Aside0.mk hbox; clear hbk hbox hg) | ((with_reducible refine gate_dst (N := 3) rfl ?_); refine box_event ?hg7 (N := 3) ?hd7 (cs := #[.bool false]) (t := 4) ?hr7 ?_; (case hd7 => rfl); (case hg7 => rfl); (case hr7 => first | (go_simp; done) | (go_simp; rfl)); intro g2 hg w2_ hbox hbk; have HGB2 := Aside0.mk (show g1 ≠ g2 ∧ W.heap.size ≤ g2 from by rw [hg]; have := blk_lt B1.out; have := HB.out.size; omega); have n_HB := Aside0.mk (below_step HB.out hbk); have n_B1 := Aside0.mk (blk_below B1.out hbk); clear HB B1; have HB := n_HB; have B1 := n_B1; clear n_HB n_B1; have B2 := Aside0.mk hbox; clear hbk hbox hg) | (refine li_mkbool (x := .tmp 8) (y := .tmp 8) rfl rfl h.length HH.out rfl rfl ?_; intro gi hg w3_ hbox hbk; have HGBI := Aside0.mk (show g1 ≠ gi ∧ g2 ≠ gi ∧ W.heap.size ≤ gi from by rw [hg]; have := blk_lt B1.out; have := blk_lt B2.out; have := HB.out.size; omega); have HLT := Aside0.mk (show g1 < gi ∧ g2 < gi from by rw [hg]; exact ⟨blk_lt B1.out, blk_lt B2.out⟩); have n_HB := Aside0.mk (below_step HB.out hbk); have n_B1 := Aside0.mk (blk_below B1.out hbk); have n_B2 := Aside0.mk (blk_below B2.out hbk); clear HB B1 B2; have HB := n_HB; have B1 := n_B1; have B2 := n_B2; clear n_HB n_B1 n_B2; have BI := Aside0.mk hbox; clear hbk hbox hg) | ((with_reducible refine gate_dst (N := 11) rfl ?_); refine box_event ?hg8 (N := 11) ?hd8 (cs := #[.slice A h.length c0, .slice (some ⟨gi, 0, none⟩) h.length h.length]) (t := 64) ?hr8 ?_; (case hd8 => rfl); (case hg8 => rfl); (case hr8 => first | (go_simp; done) | (go_simp; rfl)); intro g3 hg w4_ hbox hbk; have HGB3 := Aside0.mk (show g1 ≠ g3 ∧ g2 ≠ g3 ∧ gi ≠ g3 ∧ W.heap.size ≤ g3 from by rw [hg]; have := blk_lt B1.out; have := blk_lt B2.out; have := blk_lt BI.out; have := HB.out.size; omega); have n_HB := Aside0.mk (below_step HB.out hbk); have n_B1 := Aside0.mk (blk_below B1.out hbk); have n_B2 := Aside0.mk (blk_below B2.out hbk); have n_BI := Aside0.mk (blk_below BI.out hbk); clear HB B1 B2 BI; have HB := n_HB; have B1 := n_B1; have B2 := n_B2; have BI := n_BI; clear n_HB n_B1 n_B2 n_BI; have B3 := Aside0.mk hbox; clear hbk hbox hg) | (go_at_call 26; (with_reducible refine (li_first W A c0 h g3 gi HH.out HR.out (Ne.symm HGB3.out.2.2.1) HGBI.out.2.2 _ HB.out B3.out BI.out).mono ?_); intro e0 u5_ hp; obtain ⟨ao2, c2, he0, hc2, hgr2, ht3⟩ := nextPost_some HSR.out hp; subst he0; have HC2 := Aside0.mk hc2; have HT3 := Aside0.mk ht3; have n_HB := Aside0.mk (HB.out.grown hgr2 HB.out.size (fun k hk => by cases hk; exact HGBI.out.2.2)); have n_B1 := Aside0.mk (wq_blk B1.out hgr2 HGBI.out.1); have n_B2 := Aside0.mk (wq_blk B2.out hgr2 HGBI.out.2.1); clear HB B1 B2 BI B3 hp hc2 ht3 hgr2; have HB := n_HB; have B1 := n_B1; have B2 := n_B2; clear n_HB n_B1 n_B2))
  refine leaves_cons (f := 25) (args := #[.pointer (some ⟨g1, 0, none⟩), .pointer (some ⟨g2, 0, none⟩)]) (by simp) (by simp [go_sem]) ?_
  refine (li_catch g1 g2 HGB2.out.1 ao2 t.length c2 _ _ _ B1.out B2.out).mono ?_
  rintro e u' w'' ⟨rfl, rfl, rfl⟩
  obtain ⟨w2, e2, q1, q2, q3, q4⟩ := order_end (n := t.length) (c := c2) B1.out B2.out HGB2.out.1 HT3.out HLT.out.1 HLT.out.2 HB.out HGB1.out HGB2.out.2
  rw [← e2]
  refine ⟨_, res_cc rfl _ _ (by rfl) (by rfl) q1 q2 Try.underlying38 rfl Try.underlying4 rfl, ?_⟩
  have ht : turnP h = t := by unfold turnP; rw [HO.out]; rfl
  have hl := turnP_len h
  unfold OrderPost
  rw [ht] at hl ⊢
  rw [HO.out]
  exact ⟨ao2, c2, rfl, HC2.out, ints_C q3 (by have := HH.out; omega), q4⟩
theorem li_Order (A : Option Addr) (c0 : Nat) (h : List S44) (hh : h.length ≤ 1000) (W : World) (hr : Kd.C k44 W A h.length h) : Calls Try.prog 14 #[.slice A h.length c0] W (OrderPost h W) := by
  cases hs : orderP h with
  | none => exact li_order_none A c0 h hh hs W hr
  | some t => exact li_order_some A c0 h hh t hs W hr


/-! ### lin_Legal: function 17 (by hand) -/
set_option maxHeartbeats 8000000 in
set_option maxRecDepth 100000 in
theorem li_Legal (A : Option Addr) (c0 : Nat) (h : List S44) (hh : h.length ≤ 1000) (W : World) (hr : Kd.C k44 W A h.length h) : Calls Try.prog 17 #[.slice A h.length c0] W fun e w' => e = .returned (.bool (orderP h).isSome) ∧ Below W.heap.size W w' := by
  have HR := Aside0.mk hr
  have HH := Aside0.mk hh
  have HB := Aside0.mk (Below.refl W.heap.size W)
  clear hr hh
  go_enter Try.func17, Try.ntmps17
  go_wp2_with (go_at_call 14; (with_reducible refine (li_Order A c0 h HH.out _ HR.out).mono ?_); rintro e w1 ⟨ao, c, rfl, _, _, hb⟩; have HB1 := Aside0.mk hb; clear HB hb)
  go_ret
  exact ⟨rfl, HB1.out⟩



/-! ### corrielaw21_two: function 18 -/
def corrielaw21_two.f (a0 : Bool) (a1 : Bool) : Option ((List (S44))) := some (([(⟨0, 0, 0, 5, 0, (⟨1, 1, 0, 0⟩ : S25), (⟨0, a0, 0, ([] : List (S53))⟩ : S30)⟩ : S44), (⟨1, 0, 1, 4, 0, (⟨1, 1, 0, 0⟩ : S25), (⟨0, a1, 0, ([] : List (S53))⟩ : S30)⟩ : S44)] : List (S44)))
set_option maxHeartbeats 8000000 in
set_option maxRecDepth 100000 in
theorem corrielaw21_two.calls (a0 : Bool) (a1 : Bool) (r : List (S44)) (w : World) (h : corrielaw21_two.f a0 a1 = some r) :
    Calls Try.prog 18 #[.bool a0, .bool a1] w fun e w' => ∃ v0_ : Value, e = .returned (v0_) ∧ Kd.S k44 44 w' w.heap.size (fun _ => True) v0_ r ∧ Below w.heap.size w w' := by
  have hu25 := Try.underlying25
  have hu30 := Try.underlying30
  have hu44 := Try.underlying44
  have HB := Aside0.mk (Below.refl w.heap.size w)
  have H : (some (([(⟨0, 0, 0, 5, 0, (⟨1, 1, 0, 0⟩ : S25), (⟨0, a0, 0, ([] : List (S53))⟩ : S30)⟩ : S44), (⟨1, 0, 1, 4, 0, (⟨1, 1, 0, 0⟩ : S25), (⟨0, a1, 0, ([] : List (S53))⟩ : S30)⟩ : S44)] : List (S44)))) = some r := h
  clear h
  obtain ⟨y113, hy113⟩ : ∃ y_ : List (S44), y_ = (([(⟨0, 0, 0, 5, 0, (⟨1, 1, 0, 0⟩ : S25), (⟨0, a0, 0, ([] : List (S53))⟩ : S30)⟩ : S44), (⟨1, 0, 1, 4, 0, (⟨1, 1, 0, 0⟩ : S25), (⟨0, a1, 0, ([] : List (S53))⟩ : S30)⟩ : S44)] : List (S44))) := ⟨_, rfl⟩
  replace H : (some y113) = some r := by first | (rw [hy113]; with_reducible exact H) | (have H2_ := (Option.bind_some _ _).symm.trans H; rw [hy113]; with_reducible exact H2_) | (have H2_ := (Option.bind_some _ _).symm.trans H; with_reducible exact H2_) | with_reducible exact H | (rw [hy113]; exact H) | exact H
  have Ny113 := Aside0.mk hy113
  clear hy113
  obtain rfl := Option.some.inj H
  go_enter Try.func18, Try.ntmps18
  go_wp2_with (first | ((with_reducible refine gate_dst (N := 5) rfl ?_); refine box_event ?hg (N := 5) ?hd (cs := #[.int .i64 0, .int .u64 0, .int .u64 0, .int .i64 0]) (t := 25) ?hr ?_; (case hd => rfl); (case hg => rfl); (case hr => first | (go_simp; done) | (go_simp; rfl)); intro gb112 hg w3 hbox hb; have n0_ := Aside0.mk (below_step (by repeat (first | (with_reducible first | exact HB.out | apply below_alloc | apply pw_below_drewN | apply below_drew1) | exact HB.out)) hb); have n1_ := Aside0.mk (hbox); have n2_ := Aside0.mk ((by rw [hg]; exact (below_size (by repeat (first | (with_reducible first | exact HB.out | apply below_alloc | apply pw_below_drewN | apply below_drew1) | exact HB.out))) : w.heap.size ≤ gb112)); have n3_ := Aside0.mk ((by rw [hg]; exact (below_size (by repeat (first | (with_reducible first | exact HB.out | apply below_alloc | apply pw_below_drewN | apply below_drew1) | exact HB.out))) : w.heap.size ≤ gb112)); clear HB; have HB := n0_; have BK112 := n1_; have GW112 := n2_; have GE112 := n3_; clear n0_ n1_ n2_ n3_; clear hb hbox hg; have hcz4_0 : w3.cell? ⟨gb112, 0, none⟩ = some (.int .i64 0) := (blk_cell BK112.out 0).trans rfl; have hcz4_1 : w3.cell? ⟨gb112, 1, none⟩ = some (.int .u64 0) := (blk_cell BK112.out 1).trans rfl; have hcz4_2 : w3.cell? ⟨gb112, 2, none⟩ = some (.int .u64 0) := (blk_cell BK112.out 2).trans rfl; have hcz4_3 : w3.cell? ⟨gb112, 3, none⟩ = some (.int .i64 0) := (blk_cell BK112.out 3).trans rfl; have hfz4_0 := blk_frozen BK112.out 0; have hfz4_1 := blk_frozen BK112.out 1; have hfz4_2 := blk_frozen BK112.out 2; have hfz4_3 := blk_frozen BK112.out 3) | ((with_reducible refine gate_dst (N := 15) rfl ?_); refine Kd.S_lit k44 _ 44 ?hg (N := 15) ?hd (xs := ([(⟨0, 0, 0, 5, 0, (⟨1, 1, 0, 0⟩ : S25), (⟨0, a0, 0, ([] : List (S53))⟩ : S30)⟩ : S44), (⟨1, 0, 1, 4, 0, (⟨1, 1, 0, 0⟩ : S25), (⟨0, a1, 0, ([] : List (S53))⟩ : S30)⟩ : S44)] : List (S44))) (inner := [.int .i64 0, .int .i64 0, .int .i64 0, .int .i64 5, .int .i64 0, .int .i64 1, .int .u64 1, .int .u64 0, .int .i64 0, .int .i64 0, .bool a0, .int .u64 0, .slice none 0 0, .int .i64 1, .int .i64 0, .int .i64 1, .int .i64 4, .int .i64 0, .int .i64 1, .int .u64 1, .int .u64 0, .int .i64 0, .int .i64 0, .bool a1, .int .u64 0, .slice none 0 0]) (ok := fun _ => True) (okp := fun _ => True) ?hr ?hp (fun _ hk => hk) trivial (Below.refl _ _) (Nat.le_refl _) (by simp) ?_; (case hd => rfl); (case hg => rfl); (case hr => first | (go_simp; done) | (go_simp; rfl)); (case hp => exact (Reps.front (show Kd.M k44 _ _ _ (⟨0, 0, 0, 5, 0, (⟨1, 1, 0, 0⟩ : S25), (⟨0, a0, 0, ([] : List (S53))⟩ : S30)⟩ : S44) [.int .i64 0, .int .i64 0, .int .i64 0, .int .i64 5, .int .i64 0, .int .i64 1, .int .u64 1, .int .u64 0, .int .i64 0, .int .i64 0, .bool a0, .int .u64 0, .slice none 0 0] from (k44_mkM _ _ _ (⟨0, 0, 0, 5, 0, (⟨1, 1, 0, 0⟩ : S25), (⟨0, a0, 0, ([] : List (S53))⟩ : S30)⟩ : S44) (Kd.R_nil _ _ _ _ _))) rfl (Reps.front (show Kd.M k44 _ _ _ (⟨1, 0, 1, 4, 0, (⟨1, 1, 0, 0⟩ : S25), (⟨0, a1, 0, ([] : List (S53))⟩ : S30)⟩ : S44) [.int .i64 1, .int .i64 0, .int .i64 1, .int .i64 4, .int .i64 0, .int .i64 1, .int .u64 1, .int .u64 0, .int .i64 0, .int .i64 0, .bool a1, .int .u64 0, .slice none 0 0] from (k44_mkM _ _ _ (⟨1, 0, 1, 4, 0, (⟨1, 1, 0, 0⟩ : S25), (⟨0, a1, 0, ([] : List (S53))⟩ : S30)⟩ : S44) (Kd.R_nil _ _ _ _ _))) rfl (Reps.none _ _) rfl) rfl)); intro v114 w5 ho6 hb hg_ hnew_; clear hg_ hnew_; (first | rw [← Ny113.out] at ho6 | (simp only [Int.reduceToNat] at ho6; rw [← Ny113.out] at ho6)); have n0_ := Aside0.mk (Kd.S_lower ho6 (below_size (by repeat (first | (with_reducible first | exact HB.out | apply below_alloc | apply pw_below_drewN | apply below_drew1 | refine below_set ?_ GE112.out) | exact HB.out)))); have n1_ := Aside0.mk (blk_below (g := gb112) (o := .cells #[.int .i64 1, .int .u64 1, .int .u64 0, .int .i64 0] 25 (0, 0)) (by (with_reducible repeat (first | refine blk_drewN ?_ _ | refine blk_drew ?_ | refine blk_alloc ?_ _)); refine blk_put (cs := #[.int .i64 1, .int .u64 1, .int .u64 0, .int .i64 0]) ?_ 3 _ rfl; (with_reducible repeat (first | refine blk_drewN ?_ _ | refine blk_drew ?_ | refine blk_alloc ?_ _)); refine blk_put (cs := #[.int .i64 1, .int .u64 1, .int .u64 0, .int .i64 0]) ?_ 2 _ rfl; (with_reducible repeat (first | refine blk_drewN ?_ _ | refine blk_drew ?_ | refine blk_alloc ?_ _)); refine blk_put (cs := #[.int .i64 1, .int .u64 0, .int .u64 0, .int .i64 0]) ?_ 1 _ rfl; (with_reducible repeat (first | refine blk_drewN ?_ _ | refine blk_drew ?_ | refine blk_alloc ?_ _)); refine blk_put (cs := #[.int .i64 0, .int .u64 0, .int .u64 0, .int .i64 0]) ?_ 0 _ rfl; (with_reducible repeat (first | refine blk_drewN ?_ _ | refine blk_drew ?_ | refine blk_alloc ?_ _)); exact BK112.out) hb); have n2_ := Aside0.mk (below_step (by repeat (first | (with_reducible first | exact HB.out | apply below_alloc | apply pw_below_drewN | apply below_drew1 | refine below_set ?_ GE112.out) | exact HB.out)) hb); clear BK112; clear HB; have HO115 := n0_; have BK112 := n1_; have HB := n2_; clear n0_ n1_ n2_; clear hb ho6))
  go_ret
  exact ⟨_, by first | rfl | (simp [errW_none, errW_some] <;> rfl) | (simp [*, errW_none, errW_some] <;> rfl), by (with_reducible repeat (first | apply Kd.S_alloc | apply Kd.S_drewN | apply Kd.S_drew)); exact HO115.out, by repeat (first | (with_reducible first | exact HB.out | apply below_alloc | apply pw_below_drewN | apply below_drew1 | refine below_set ?_ GE112.out) | exact HB.out)⟩

/-! ### corrielaw21_awake: function 7 (by hand) -/
def twoEv (a b : Bool) : List S44 := [⟨0, 0, 0, 5, 0, ⟨1, 1, 0, 0⟩, ⟨0, a, 0, []⟩⟩, ⟨1, 0, 1, 4, 0, ⟨1, 1, 0, 0⟩, ⟨0, b, 0, []⟩⟩]
theorem li_two (a b : Bool) (W : World) : Calls Try.prog 18 #[.bool a, .bool b] W fun e w' => ∃ A c, e = .returned (.slice A 2 c) ∧ 2 ≤ c ∧ Kd.C k44 w' A 2 (twoEv a b) ∧ Below W.heap.size W w' := by
  refine (corrielaw21_two.calls a b (twoEv a b) W rfl).mono ?_
  rintro e w' ⟨v, rfl, hs, hb⟩
  obtain ⟨A, c, rfl, hc, hr⟩ := Kd.S_reads hs
  exact ⟨A, c, rfl, hc, hr, hb⟩
theorem aw_order : orderP (twoEv false true) = some [1, 0] := by kernel_rfl
theorem aw_tt : orderP (twoEv true true) = none := by kernel_rfl
theorem aw_ff : orderP (twoEv false false) = none := by kernel_rfl
theorem aw_nil : orderP [] = some [] := by kernel_rfl
theorem add_none (ad : Addr) : ad.add 0 = ad := by
  unfold Addr.add
  split <;> simp_all
/-- Order of two events -/
theorem li_order2 (A : Option Addr) (c0 : Nat) (W : World) (hr : Kd.C k44 W A 2 (twoEv false true)) : Calls Try.prog 14 #[.slice A 2 c0] W fun e w' => ∃ ad c, e = .returned (.tuple #[.slice (some ad) 2 c, .bool true]) ∧ 2 ≤ c ∧ w'.cell? ad = some (.int .i64 1) ∧ w'.cell? ⟨ad.block, ad.off + 1, none⟩ = some (.int .i64 0) ∧ Below W.heap.size W w' := by
  refine (li_Order A c0 (twoEv false true) (by simp [twoEv]) W hr).mono ?_
  rintro e w' ⟨ao, c, rfl, hc, hk, hb⟩
  have ht : turnP (twoEv false true) = [1, 0] := by unfold turnP; rw [aw_order]; rfl
  rw [ht] at hc hk
  rw [ht, aw_order]
  obtain ⟨ad, e1, h1⟩ := hk.2.2 (by simp)
  have cell : ∀ (j : Nat) (p : Int), ([1, 0] : List Int)[j]? = some p → w'.cell? (ad.add (j * 1)) = some (.int .i64 p) := by
    intro j p hj
    obtain ⟨c, hcl, hK, hcc⟩ := h1 j p (by simpa using hj)
    have hK' : c = [.int .i64 p] := hK
    subst hK'
    have h9 : w'.cell? (ad.add (j * 1 + 0)) = some (.int .i64 p) := hcc 0 (.int .i64 p) rfl
    simpa using h9
  subst e1
  refine ⟨ad, c, rfl, hc, ?_, ?_, hb⟩
  · have h2 := cell 0 1 rfl
    rw [Nat.zero_mul, add_none] at h2
    exact h2
  · have h2 := cell 1 0 rfl
    have h3 := add_field ad 0 1 (by decide)
    rw [add_none] at h3
    rw [Nat.mul_one, show (1 : Nat) = 0 + 1 from rfl, h3] at h2
    exact h2
theorem li_legal2 (a b : Bool) (hn : orderP (twoEv a b) = none) (A : Option Addr) (c0 : Nat) (W : World) (hr : Kd.C k44 W A 2 (twoEv a b)) : Calls Try.prog 17 #[.slice A 2 c0] W fun e w' => e = .returned (.bool false) ∧ Below W.heap.size W w' := by
  have h := li_Legal A c0 (twoEv a b) (by simp [twoEv]) W hr
  rw [hn] at h
  exact h
theorem li_legal0 (W : World) : Calls Try.prog 17 #[.slice none 0 0] W fun e w' => e = .returned (.bool true) ∧ Below W.heap.size W w' := by
  have h := li_Legal none 0 [] (by simp) W (Kd.C_nil _ _)
  rw [aw_nil] at h
  exact h
/-- Apply, of a row that the call has just laid -/
theorem li_apply1 (W : World) : Calls Try.prog 9 #[.slice (some ⟨W.heap.size, 0, none⟩) 1 1, .agg #[.int .i64 3, .int .u64 1, .int .u64 0, .int .i64 0]] (W.alloc (.cells #[.int .u64 1, .int .u64 2] 53)) fun e w' => ∃ A c, e = .returned (.tuple #[.slice A 1 c, .agg #[.int .i64 0, .bool true, .int .u64 2, .slice none 0 0]]) ∧ Below W.heap.size W w' := by
  have hb0 := below_alloc (Below.refl W.heap.size W) (.cells #[.int .u64 1, .int .u64 2] 53)
  have hk : Kd.C k53 (W.alloc (.cells #[.int .u64 1, .int .u64 2] 53)) (some ⟨W.heap.size, 0, none⟩) 1 [⟨1, 2⟩] := by
    refine ⟨rfl, by decide, fun _ => ⟨_, rfl, ?_⟩⟩
    intro j p hj
    have hj0 : j = 0 := by
      have := (List.getElem?_eq_some_iff.1 hj).1
      simp at this
      exact this
    subst hj0
    simp at hj
    subst hj
    exact ⟨_, rfl, k53_mk _ _, fun i u hi => cell_two_new W _ _ _ (0 * 2 + i) u (by simpa using hi)⟩
  refine (li_Apply _ 1 [⟨1, 2⟩] 3 1 0 0 (by simp) (by simp [Rising]) _ hk).mono ?_
  rintro e w' ⟨v', rfl, ho, hb⟩
  have e1 : apL [⟨1, 2⟩] 3 1 0 = [⟨1, 2⟩] := by kernel_rfl
  have e2 : apD [⟨1, 2⟩] 3 1 = true := by kernel_rfl
  have e3 : apV [⟨1, 2⟩] 3 1 = 2 := by kernel_rfl
  rw [e1] at ho
  rw [e2, e3]
  obtain ⟨A, c, rfl, _, _⟩ := OW.C ho
  exact ⟨A, c, rfl, hb0.trans (hb.mono (by simp))⟩

section
variable {P : Program} {ops : Array Oper} {rest : List Oper} {o : Oper} {a : Act} {Q : Exit → Act → World → Prop}
/-- a load of one cell, by its fact -/
theorem wq_run_loadC {W : World} {ty : TypeId} {p : Operand} {d : TypeDesc} {ad : Addr} {v : Value} (ho : o.op = .load ty p) (hp : a.eval p = .pointer (some ad)) (hu : P.underlying ty = some d) (hd : aggd d = false) (hc : W.cell? ad = some v) : (execOp a.eval o).run P W = .ok (.value v) W := by
  have hagg : (isAgg ty).run P W = .ok false W := by
    unfold isAgg
    rw [Sem.run_bind, run_underlying hu W]
    cases d <;> simp_all [aggd]
  unfold execOp
  simp [ho, hp, Instr.loadAt, Instr.sureAddr, loadVar, Sem.run_bind, hagg, load, Sem.run, hc]
theorem wq_loadC {W : World} {ty : TypeId} {p : Operand} {d : TypeDesc} {ad : Addr} {v : Value} (hgd : Region.wanted o (yielded ops a.tmps) = true) (ho : o.op = .load ty p) (hp : a.eval p = .pointer (some ad)) (hu : P.underlying ty = some d) (hd : aggd d = false) (hc : W.cell? ad = some v) (h : wpList P ops Q rest (a.put o.dst v) W) : wpList P ops Q (o :: rest) a W :=
  wq_runw hgd (wq_run_loadC ho hp hu hd hc) h
end
set_option maxHeartbeats 8000000 in
set_option maxRecDepth 100000 in
theorem li_awake (W : World) : Calls Try.prog 7 #[] W fun e w' => e = .returned (.bool true) ∧ Below W.heap.size W w' := by
  have HB := Aside0.mk (Below.refl W.heap.size W)
  go_enter Try.func7, Try.ntmps7
  go_wp2_with (first | (go_at_call 18; (with_reducible refine (li_two false true _).mono ?_); rintro e u1_ ⟨A1, c1, rfl, hc, hk, hbk⟩; have n_HB := Aside0.mk (below_step HB.out hbk); clear HB; have HB := n_HB; clear n_HB; have HK1 := Aside0.mk hk; clear hbk hc hk) | (go_at_call 14; (with_reducible refine (li_order2 A1 c1 _ HK1.out).mono ?_); rintro e u2_ ⟨ad, c7, rfl, hc, ht0, ht1, hbk⟩; have n_HB := Aside0.mk (below_step HB.out hbk); clear HB; have HB := n_HB; clear n_HB; have hq : ∃ w7 : World, w7.cell? ad = some (.int .i64 1) ∧ w7.cell? ⟨ad.block, ad.off + 1, none⟩ = some (.int .i64 0) ∧ Below w7.heap.size w7 u2_ := ⟨_, ht0, ht1, Below.refl _ _⟩; obtain ⟨w7, h70, h71, hb7⟩ := hq; have HT0 := Aside0.mk h70; have HT1 := Aside0.mk h71; have HB7 := Aside0.mk hb7; clear hbk hc ht0 ht1 h70 h71 hb7) | (go_at_call 9; (with_reducible refine (li_apply1 _).mono ?_); rintro e u3_ ⟨A8, c8, rfl, hbk⟩; have n_HB := Aside0.mk (below_step HB.out hbk); have n_HB7 := Aside0.mk (below_step HB7.out hbk); clear HB HB7; have HB := n_HB; have HB7 := n_HB7; clear n_HB n_HB7; clear hbk) | ((with_reducible refine gate_dst (N := 4) rfl ?_); refine box_event ?hg4 (N := 4) ?hd4 (cs := #[.int .i64 0, .bool false, .int .u64 0, .slice none 0 0]) (t := 30) ?hr4 ?_; (case hd4 => rfl); (case hg4 => rfl); (case hr4 => first | (go_simp; done) | (go_simp; rfl)); intro g1 hg w4_ hbox hbk; have HGB1 := Aside0.mk (show W.heap.size ≤ g1 from by rw [hg]; have := HB.out.size; omega); have HFB1 := Aside0.mk (show w7.heap.size ≤ g1 from by rw [hg]; exact HB7.out.size); have n_HB := Aside0.mk (below_step HB.out hbk); have n_HB7 := Aside0.mk (below_step HB7.out hbk); clear HB HB7; have HB := n_HB; have HB7 := n_HB7; clear n_HB n_HB7; have B1 := Aside0.mk hbox; clear hbk hbox hg) | ((with_reducible refine gate_store (p := 4) rfl ?_); refine wq_store (ty := 30) (p := .tmp 4) (x := .tmp 16) (g := g1) (i := 0) (k := 4) (v := ?v5) (vs := ?vs5) (cs' := ?cs5) ?hgd5 ?hdst5 ?ho5 ?hp5 ?hx5 ?hvc5 ?hi5 ?hk5 ?h15 B1.out ?hsz5 ?hcs5 ?_; (case hi5 => kernel_rfl); (case hgd5 => rfl); (case hdst5 => rfl); (case ho5 => rfl); (case hp5 => rfl); (case hx5 => go_simp; with_reducible rfl); (case hvc5 => simp only [Value.cells]; with_reducible rfl); (case hk5 => rfl); (case h15 => rfl); (case hsz5 => exact Nat.le_of_ble_eq_true rfl); (case hcs5 => simp only [wqPut, List.setIfInBounds_toArray, List.set_cons_succ, List.set_cons_zero, Nat.reduceAdd]; with_reducible rfl); intro w5_ hb hgr; have n_HB := Aside0.mk (HB.out.grown hgr HB.out.size (fun k hk => by cases hk; exact HGB1.out)); have n_HB7 := Aside0.mk (HB7.out.grown hgr HB7.out.size (fun k hk => by cases hk; exact HFB1.out)); have n_B1 := Aside0.mk hb; clear HB HB7 B1 hb hgr; have HB := n_HB; have HB7 := n_HB7; have B1 := n_B1; clear n_HB n_HB7 n_B1) | ((with_reducible refine gate_dst (N := 26) rfl ?_); refine wq_loadC (ty := 3) (p := .tmp 25) (ad := ad) ?hgd6 ?ho6 ?hp6 Try.underlying3 ?hd6 (pw_cell_below HB7.out HT0.out) ?_; (case hd6 => rfl); (case hgd6 => rfl); (case ho6 => rfl); (case hp6 => rfl)) | ((with_reducible refine gate_dst (N := 32) rfl ?_); refine wq_loadC (ty := 3) (p := .tmp 31) (ad := ⟨ad.block, ad.off + 1, none⟩) ?hgd7 ?ho7 ?hp7 Try.underlying3 ?hd7 (pw_cell_below HB7.out HT1.out) ?_; (case hd7 => rfl); (case hgd7 => rfl); (case ho7 => rfl); (case hp7 => rfl)) | (go_at_call 18; (with_reducible refine (li_two true true _).mono ?_); rintro e u6_ ⟨A4, c4, rfl, hc, hk, hbk⟩; have n_HB := Aside0.mk (below_step HB.out hbk); have n_HB7 := Aside0.mk (below_step HB7.out hbk); have n_B1 := Aside0.mk (blk_below B1.out hbk); clear HB HB7 B1; have HB := n_HB; have HB7 := n_HB7; have B1 := n_B1; clear n_HB n_HB7 n_B1; have HK4 := Aside0.mk hk; clear hbk hc hk) | (go_at_call 17; (with_reducible refine (li_legal2 true true aw_tt A4 c4 _ HK4.out).mono ?_); rintro e u7_ ⟨rfl, hbk⟩; have n_HB := Aside0.mk (below_step HB.out hbk); have n_HB7 := Aside0.mk (below_step HB7.out hbk); have n_B1 := Aside0.mk (blk_below B1.out hbk); clear HB HB7 B1; have HB := n_HB; have HB7 := n_HB7; have B1 := n_B1; clear n_HB n_HB7 n_B1; clear hbk) | (go_at_call 18; (with_reducible refine (li_two false false _).mono ?_); rintro e u8_ ⟨A6, c6, rfl, hc, hk, hbk⟩; have n_HB := Aside0.mk (below_step HB.out hbk); have n_HB7 := Aside0.mk (below_step HB7.out hbk); have n_B1 := Aside0.mk (blk_below B1.out hbk); clear HB HB7 B1; have HB := n_HB; have HB7 := n_HB7; have B1 := n_B1; clear n_HB n_HB7 n_B1; have HK6 := Aside0.mk hk; clear hbk hc hk) | (go_at_call 17; (with_reducible refine (li_legal2 false false aw_ff A6 c6 _ HK6.out).mono ?_); rintro e u9_ ⟨rfl, hbk⟩; have n_HB := Aside0.mk (below_step HB.out hbk); have n_HB7 := Aside0.mk (below_step HB7.out hbk); have n_B1 := Aside0.mk (blk_below B1.out hbk); clear HB HB7 B1; have HB := n_HB; have HB7 := n_HB7; have B1 := n_B1; clear n_HB n_HB7 n_B1; clear hbk) | (go_at_call 17; (with_reducible refine (li_legal0 _).mono ?_); rintro e u10_ ⟨rfl, hbk⟩; have n_HB := Aside0.mk (below_step HB.out hbk); have n_HB7 := Aside0.mk (below_step HB7.out hbk); have n_B1 := Aside0.mk (blk_below B1.out hbk); clear HB HB7 B1; have HB := n_HB; have HB7 := n_HB7; have B1 := n_B1; clear n_HB n_HB7 n_B1; clear hbk) | ((with_reducible refine gate_dst (N := 55) rfl ?_); refine wq_load1w (ty := 4) (p := .tmp 54) (g := g1) (i := 1) (v := ?v13) ?hgd13 ?ho13 ?hp13 Try.underlying4 ?hd13 B1.out ?hv13 ?_; (case hd13 => rfl); (case hgd13 => rfl); (case ho13 => rfl); (case hp13 => rfl); (case hv13 => rfl)) | ((with_reducible refine gate_dst (N := 59) rfl ?_); refine wq_load1w (ty := 23) (p := .tmp 58) (g := g1) (i := 2) (v := ?v14) ?hgd14 ?ho14 ?hp14 Try.underlying23 ?hd14 B1.out ?hv14 ?_; (case hd14 => rfl); (case hgd14 => rfl); (case ho14 => rfl); (case hp14 => rfl); (case hv14 => rfl)))
  go_ret
  exact ⟨rfl, HB.out⟩



end Go.Proofs.Ytcleoahoppggmaa.PLinAlone
