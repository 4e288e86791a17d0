-- Written by a program of this session: a variant of the print that takes proofs by hand (wip/tools/mkprint.py)
import Derived.Test.YtcleoahoppggmaaPLinAlonex0
namespace Go.Proofs.Ytcleoahoppggmaa.PLinAlone
open Go.RowKit Go.Proofs.YtcleoahoppggmaaW.PrintWords Go.Proofs.YtcleoahoppggmaaW.PrintLast Go.Proofs.YtcleoahoppggmaaW.PrintMore
attribute [local go_sem] max2_int min2_int max_two min_two max_three min_three max_four min_four   -- for this text's walks alone
set_option linter.unusedVariables false
set_option linter.unusedSimpArgs false

/-! ### lin_Apply: function 9 (by hand) -/
theorem wq_add (g i j : Nat) : (⟨g, i, none⟩ : Addr).add j = ⟨g, i + j, none⟩ := by unfold Addr.add; split <;> simp_all
def wqPut (cs : Array Value) (k : Nat) : List Value → Array Value
  | [] => cs
  | v :: r => wqPut (cs.setIfInBounds k v) (k + 1) r
theorem wq_grown_set {W W1 : World} {g j : Nat} (h : W.grownBy W1 (some g)) (v : Value) : W.grownBy (W1.setCell ⟨g, j, none⟩ v) (some g) :=
  ⟨h.os, h.tape, h.output, Nat.le_trans h.size (by simp), fun k hk hne => (Below.heap_setCell W1 ⟨g, j, none⟩ v k (fun e => hne (by rw [e]))).trans (h.block k hk hne)⟩
theorem wq_grown_self (W : World) (g : Nat) : W.grownBy W (some g) := ⟨rfl, rfl, rfl, Nat.le_refl _, fun _ _ _ => rfl⟩
theorem wq_grown_trans {a b c : World} {g : Nat} (h : a.grownBy b (some g)) (k : b.grownBy c (some g)) : a.grownBy c (some g) :=
  ⟨k.os.trans h.os, k.tape.trans h.tape, k.output.trans h.output, Nat.le_trans h.size k.size, fun j hj hne => (k.block j (Nat.lt_of_lt_of_le hj h.size) hne).trans (h.block j hj hne)⟩
theorem wq_stores {P : Program} (g i : Nat) (t : TypeId) : ∀ (vs : List Value) (j : Nat) (w : World) (cs : Array Value), w.heap[g]? = some (.cells cs t (0, 0)) → i + j + vs.length ≤ cs.size → (∀ v, v ∈ vs → v.oneCell' = true) →
    ∃ w', (storeCells ⟨g, i, none⟩ vs j).run P w = .ok () w' ∧ w'.heap[g]? = some (.cells (wqPut cs (i + j) vs) t (0, 0)) ∧ w.grownBy w' (some g) := by
  intro vs
  induction vs with
  | nil => exact fun j w cs hb _ _ => ⟨w, rfl, hb, wq_grown_self w g⟩
  | cons v r ih =>
    intro j w cs hb hsz hv
    simp only [List.length_cons] at hsz
    have hc : w.cell? ⟨g, i + j, none⟩ = some (cs[i + j]'(by omega)) := by rw [blk_cell hb]; simp
    have hf : w.frozen? ⟨g, i + j, none⟩ = false := blk_frozen hb (i + j)
    have hb1 : (w.setCell ⟨g, i + j, none⟩ v).heap[g]? = some (.cells (cs.setIfInBounds (i + j) v) t (0, 0)) := heap_setCell_same w g (i + j) cs t v hb
    obtain ⟨w', h1, h2, h3⟩ := ih (j + 1) _ _ hb1 (by simp only [Array.size_setIfInBounds]; omega) (fun u hu => hv u (List.mem_cons_of_mem _ hu))
    refine ⟨w', ?_, h2, wq_grown_trans (wq_grown_set (wq_grown_self w g) v) h3⟩
    unfold storeCells
    rw [Sem.run_bind, wq_add, run_store P w ⟨g, i + j, none⟩ v _ (hv v List.mem_cons_self), hc]
    simp only [hf, Bool.false_eq_true, if_false, Result.andThen_ok]
    exact h1
theorem wq_storeAt {P : Program} (ty : TypeId) (v : Value) (vs : List Value) (hvc : v.cells.toList = vs) {k : Nat} (hi : (P.info? ty).map (·.size) = some k) (hk : vs.length = k) (h1 : vs.all (fun u => u.oneCell') = true)
    {g i : Nat} {t : TypeId} {cs cs' : Array Value} {w : World} (hb : w.heap[g]? = some (.cells cs t (0, 0))) (hsz : i + k ≤ cs.size) (hcs : wqPut cs i vs = cs') :
    ∃ w', (Instr.storeAt ty (.pointer (some ⟨g, i, none⟩)) v).run P w = .ok () w' ∧ w'.heap[g]? = some (.cells cs' t (0, 0)) ∧ w.grownBy w' (some g) := by
  obtain ⟨w', e1, e2, e3⟩ := wq_stores (P := P) g i t vs 0 w cs hb (by omega) (by simpa [List.all_eq_true] using h1)
  rw [Nat.add_zero, hcs] at e2
  refine ⟨w', ?_, e2, e3⟩
  have hl : v.cells.size = k := by rw [← hk, ← hvc, Array.length_toList]
  cases hq : P.info? ty with
  | none => simp [hq] at hi
  | some q =>
    have hs : q.size = k := by simpa [hq] using hi
    subst hvc
    simp [Instr.storeAt, Instr.sureAddr, storeVar, Sem.run_bind, sizeOf, typeInfo, hq, hs, hl, e1]
theorem wq_loads {P : Program} (w : World) (g i : Nat) (cs : Array Value) (t : TypeId) (k : Nat) (vs : List Value) (hb : w.heap[g]? = some (.cells cs t (0, 0))) (hv : (cs.toList.drop i).take k = vs) (hk : vs.length = k) :
    (loadCells ⟨g, i, none⟩ k).run P w = .ok vs.toArray w := by
  rw [← hk]
  exact run_loadCells_list (P := P) w ⟨g, i, none⟩ vs (fun j v h => by
    rw [wq_add, blk_cell hb, ← h, ← hv]
    have hj : j < vs.length := (List.getElem?_eq_some_iff.mp h).1
    rw [List.getElem?_take, if_pos (by omega), List.getElem?_drop, Array.getElem?_toList])
theorem wq_load_agg {P : Program} (ty : TypeId) {d : TypeDesc} {k : Nat} (hu : P.underlying ty = some d) (hd : (match d with | .struct _ | .array _ _ => true | _ => false) = true) (hi : (P.info? ty).map (·.size) = some k)
    {g i : Nat} {t : TypeId} {cs : Array Value} {w : World} {vs : List Value} (hb : w.heap[g]? = some (.cells cs t (0, 0))) (hv : (cs.toList.drop i).take k = vs) (hk : vs.length = k) :
    (Instr.loadAt ty (.pointer (some ⟨g, i, none⟩))).run P w = .ok (.agg vs.toArray) w := by
  cases hq : P.info? ty with
  | none => simp [hq] at hi
  | some q =>
    have hs : q.size = k := by simpa [hq] using hi
    have hagg : (isAgg ty).run P w = .ok true w := by
      unfold isAgg
      rw [Sem.run_bind, run_underlying hu w]
      cases d <;> simp_all
    simp [Instr.loadAt, Instr.sureAddr, loadVar, Sem.run_bind, hagg, sizeOf, typeInfo, hq, hs, wq_loads w g i cs t k vs hb hv hk]
theorem wq_load_one {P : Program} (ty : TypeId) {d : TypeDesc} (hu : P.underlying ty = some d) (hd : (match d with | .struct _ | .array _ _ => true | _ => false) = false)
    {g i : Nat} {t : TypeId} {cs : Array Value} {w : World} {v : Value} (hb : w.heap[g]? = some (.cells cs t (0, 0))) (hv : cs[i]? = some v) :
    (Instr.loadAt ty (.pointer (some ⟨g, i, none⟩))).run P w = .ok v w := by
  have hagg : (isAgg ty).run P w = .ok false w := by
    unfold isAgg
    rw [Sem.run_bind, run_underlying hu w]
    cases d <;> simp_all
  have hc : w.cell? ⟨g, i, none⟩ = some v := (blk_cell hb i).trans hv
  simp [Instr.loadAt, Instr.sureAddr, loadVar, Sem.run_bind, hagg, load, Sem.run, hc]
section
variable {P : Program} {ops : Array Oper} {rest : List Oper} {o : Oper} {a : Act} {Q : Exit → Act → World → Prop}
/-- what an operation comes to -/
theorem wq_run_loadA {W : World} {ty : TypeId} {p : Operand} {d : TypeDesc} {k g i : Nat} {t : TypeId} {cs : Array Value} {vs : List Value} (ho : o.op = .load ty p) (hp : a.eval p = .pointer (some ⟨g, i, none⟩)) (hu : P.underlying ty = some d) (hd : (match d with | .struct _ | .array _ _ => true | _ => false) = true) (hi : (P.info? ty).map (·.size) = some k)
    (hb : W.heap[g]? = some (.cells cs t (0, 0))) (hv : (cs.toList.drop i).take k = vs) (hk : vs.length = k) : (execOp a.eval o).run P W = .ok (.value (.agg vs.toArray)) W := by
  unfold execOp
  simp only [ho, hp, Sem.run_bind, wq_load_agg ty hu hd hi hb hv hk, Result.andThen_ok, Sem.run_pure]
theorem wq_run_load1 {W : World} {ty : TypeId} {p : Operand} {d : TypeDesc} {g i : Nat} {t : TypeId} {cs : Array Value} {v : Value} (ho : o.op = .load ty p) (hp : a.eval p = .pointer (some ⟨g, i, none⟩)) (hu : P.underlying ty = some d) (hd : (match d with | .struct _ | .array _ _ => true | _ => false) = false)
    (hb : W.heap[g]? = some (.cells cs t (0, 0))) (hv : cs[i]? = some v) : (execOp a.eval o).run P W = .ok (.value v) W := by
  unfold execOp
  simp only [ho, hp, Sem.run_bind, wq_load_one ty hu hd hb hv, Result.andThen_ok, Sem.run_pure]
theorem wq_run_store {W : World} {ty : TypeId} {p x : Operand} {g i k : Nat} {t : TypeId} {v : Value} {cs cs' : Array Value} {vs : List Value} (ho : o.op = .store ty p x) (hp : a.eval p = .pointer (some ⟨g, i, none⟩)) (hx : a.eval x = v) (hvc : v.cells.toList = vs) (hi : (P.info? ty).map (·.size) = some k) (hk : vs.length = k) (h1 : vs.all (fun u => u.oneCell') = true)
    (hb : W.heap[g]? = some (.cells cs t (0, 0))) (hsz : i + k ≤ cs.size) (hcs : wqPut cs i vs = cs') : ∃ w', (execOp a.eval o).run P W = .ok .skip w' ∧ w'.heap[g]? = some (.cells cs' t (0, 0)) ∧ W.grownBy w' (some g) := by
  obtain ⟨w', e1, e2, e3⟩ := wq_storeAt ty v vs hvc hi hk h1 hb hsz hcs
  refine ⟨w', ?_, e2, e3⟩
  unfold execOp
  simp only [ho, hp, hx, Sem.run_bind, e1, Result.andThen_ok, Sem.run_pure]
theorem wq_loadA {W : World} {ty : TypeId} {p : Operand} {d : TypeDesc} {k g i : Nat} {t : TypeId} {cs : Array Value} {vs : List Value} (hgd : o.guard = none) (ho : o.op = .load ty p) (hp : a.eval p = .pointer (some ⟨g, i, none⟩)) (hu : P.underlying ty = some d) (hd : (match d with | .struct _ | .array _ _ => true | _ => false) = true) (hi : (P.info? ty).map (·.size) = some k)
    (hb : W.heap[g]? = some (.cells cs t (0, 0))) (hv : (cs.toList.drop i).take k = vs) (hk : vs.length = k) (h : wpList P ops Q rest (a.put o.dst (.agg vs.toArray)) W) : wpList P ops Q (o :: rest) a W :=
  Kd.event_run hgd (wq_run_loadA ho hp hu hd hi hb hv hk) h
theorem wq_load1 {W : World} {ty : TypeId} {p : Operand} {d : TypeDesc} {g i : Nat} {t : TypeId} {cs : Array Value} {v : Value} (hgd : o.guard = none) (ho : o.op = .load ty p) (hp : a.eval p = .pointer (some ⟨g, i, none⟩)) (hu : P.underlying ty = some d) (hd : (match d with | .struct _ | .array _ _ => true | _ => false) = false)
    (hb : W.heap[g]? = some (.cells cs t (0, 0))) (hv : cs[i]? = some v) (h : wpList P ops Q rest (a.put o.dst v) W) : wpList P ops Q (o :: rest) a W :=
  Kd.event_run hgd (wq_run_load1 ho hp hu hd hb hv) h
theorem wq_store {W : World} {ty : TypeId} {p x : Operand} {g i k : Nat} {t : TypeId} {v : Value} {cs cs' : Array Value} {vs : List Value} (hgd : o.guard = none) (hdst : o.dst = none) (ho : o.op = .store ty p x) (hp : a.eval p = .pointer (some ⟨g, i, none⟩)) (hx : a.eval x = v) (hvc : v.cells.toList = vs) (hi : (P.info? ty).map (·.size) = some k) (hk : vs.length = k) (h1 : vs.all (fun u => u.oneCell') = true)
    (hb : W.heap[g]? = some (.cells cs t (0, 0))) (hsz : i + k ≤ cs.size) (hcs : wqPut cs i vs = cs') (h : ∀ w1, w1.heap[g]? = some (.cells cs' t (0, 0)) → W.grownBy w1 (some g) → wpList P ops Q rest a w1) : wpList P ops Q (o :: rest) a W := by
  obtain ⟨w', e1, e2, e3⟩ := wq_run_store ho hp hx hvc hi hk h1 hb hsz hcs
  refine wpList_plain hgd fun K hK => ?_
  unfold Oper.wp
  rw [e1]
  show K (a.put o.dst undef) w'
  rw [hdst]
  exact hK _ _ (h w' e2 e3)
end
section
variable {P : Program} {oi : Oper} {a : Act} {w : World} {K : Act → World → Prop} {Q : Exit → Act → World → Prop} {ops : Array Oper}
/-- a store, a box, as one step of a region that draws -/
theorem wq_skip {ty : TypeId} {p x : Operand} {g i k : Nat} {t : TypeId} {v : Value} {cs cs' : Array Value} {vs : List Value} (hw : Region.wanted oi (yielded ops a.tmps) = true) (hN : oi.dst = none) (ho : oi.op = .store ty p x) (hp : a.eval p = .pointer (some ⟨g, i, none⟩)) (hx : a.eval x = v) (hvc : v.cells.toList = vs) (hi : (P.info? ty).map (·.size) = some k) (hk : vs.length = k) (h1 : vs.all (fun u => u.oneCell') = true)
    (hb : w.heap[g]? = some (.cells cs t (0, 0))) (hsz : i + k ≤ cs.size) (hcs : wqPut cs i vs = cs') (h : ∀ w1, w1.heap[g]? = some (.cells cs' t (0, 0)) → w.grownBy w1 (some g) → K a w1) : if Region.wanted oi (yielded ops a.tmps) = true then Oper.wp P oi a w K Q else K (a.put none undef) w := by
  obtain ⟨w', e1, e2, e3⟩ := wq_run_store ho hp hx hvc hi hk h1 hb hsz hcs
  exact skip_ hw hN e1 (h w' e2 e3)
theorem wq_value {N : Option Tmp} {cs : Array Value} {t : TypeId} (hw : Region.wanted oi (yielded ops a.tmps) = true) (hN : oi.dst = N) (hrun : (execOp a.eval oi).run P w = .ok (.value (.pointer (some ⟨w.heap.size, 0, none⟩))) (w.alloc (.cells cs t (0, 0))))
    (h : ∀ g, g = w.heap.size → ∀ w1, w1.heap[g]? = some (.cells cs t (0, 0)) → Below w.heap.size w w1 → K (a.put N (.pointer (some ⟨g, 0, none⟩))) w1) : if Region.wanted oi (yielded ops a.tmps) = true then Oper.wp P oi a w K Q else K (a.put N undef) w :=
  value_ hw hN hrun (h _ rfl _ (blk_new w _) (below_alloc (Below.refl _ _) _))
end
theorem wq_name {w : World} {g : Nat} {cs : Array Value} {t : TypeId} {fr : Nat × Nat} (h : w.heap[g]? = some (.cells cs t fr)) : ∃ X : Array Value, X = cs ∧ w.heap[g]? = some (.cells X t fr) := ⟨cs, rfl, h⟩
theorem wq_blk {W W1 : World} {g k : Nat} {ob : Obj} (h : W.heap[k]? = some ob) (hg : W.grownBy W1 (some g)) (hne : k ≠ g) : W1.heap[k]? = some ob :=
  (hg.block k ((Array.getElem?_eq_some_iff.mp h).1) (fun e => hne (Option.some.inj e))).trans h

def Rising (l : List S53) : Prop := l.Pairwise (fun a b => a.f0 < b.f0)
def kix (l : List S53) (k : Int) : Nat := (l.takeWhile (fun p => decide (p.f0 < k))).length
theorem kix_le (l : List S53) (k : Int) : kix l k ≤ l.length := (List.takeWhile_sublist _).length_le
theorem kix_low (l : List S53) (k : Int) : ∀ (p : Nat) (h : p < kix l k), (l[p]'(Nat.lt_of_lt_of_le h (kix_le l k))).f0 < k := by
  unfold kix
  induction l with
  | nil => intro p h; simp at h
  | cons a l ih =>
    intro p h
    rw [List.takeWhile_cons] at h
    by_cases c : a.f0 < k
    · rw [if_pos (decide_eq_true c), List.length_cons] at h
      cases p with
      | zero => exact c
      | succ p => exact ih p (by omega)
    · rw [if_neg (by simpa using c)] at h
      simp at h
theorem kix_at (l : List S53) (k : Int) (h : kix l k < l.length) : k ≤ (l[kix l k]).f0 := by
  have key : ∀ (l : List S53) (n : Nat), (l.takeWhile (fun p => decide (p.f0 < k))).length = n → ∀ h : n < l.length, k ≤ (l[n]).f0 := by
    intro l
    induction l with
    | nil => intro n _ h; simp at h
    | cons a l ih =>
      intro n hn h
      rw [List.takeWhile_cons] at hn
      by_cases c : a.f0 < k
      · rw [if_pos (decide_eq_true c), List.length_cons] at hn
        subst hn
        exact ih _ rfl (by simpa using h)
      · rw [if_neg (by simpa using c)] at hn
        subst hn
        simpa using c
  exact key l _ rfl h
/-- the place is where what is less ends -/
theorem kix_of (l : List S53) (k : Int) (i : Nat) (hi : i ≤ l.length) (h1 : ∀ (p : Nat) (h : p < i), (l[p]'(by omega)).f0 < k) (h2 : ∀ h : i < l.length, k ≤ (l[i]).f0) : kix l k = i := by
  rcases Nat.lt_trichotomy (kix l k) i with c | c | c
  · have a := h1 _ c
    have b := kix_at l k (by omega)
    omega
  · exact c
  · have a := kix_low l k i c
    have b := h2 (by have := kix_le l k; omega)
    omega
def cmpv (a b : Int) : Int := if a < b then -1 else if b < a then 1 else 0
set_option maxHeartbeats 8000000 in
set_option maxRecDepth 100000 in
theorem li_cmp (a b : Int) (W : World) : Calls Try.prog 21 #[.int .u64 a, .int .u64 b] W fun e w' => e = .returned (.int .i64 (cmpv a b)) ∧ w' = W := by
  unfold cmpv
  by_cases c : a < b
  · rw [if_pos c]
    have cb : decide (a < b) = true := decide_eq_true c
    clear c
    go_enter Try.func21, Try.ntmps21
    go_wp2
    go_ret
    exact ⟨rfl, rfl⟩
  · rw [if_neg c]
    have cb : decide (a < b) = false := decide_eq_false c
    clear c
    by_cases d : b < a
    · rw [if_pos d]
      have db : decide (b < a) = true := decide_eq_true d
      clear d
      go_enter Try.func21, Try.ntmps21
      go_wp2
      go_ret
      exact ⟨rfl, rfl⟩
    · rw [if_neg d]
      have db : decide (b < a) = false := decide_eq_false d
      clear d
      go_enter Try.func21, Try.ntmps21
      go_wp2
      go_ret
      exact ⟨rfl, rfl⟩
set_option maxHeartbeats 8000000 in
set_option maxRecDepth 100000 in
theorem li_key (x : S53) (k : Int) (W : World) : Calls Try.prog 20 #[.agg #[.int .u64 x.f0, .int .u64 x.f1], .int .u64 k] W fun e w' => e = .returned (.int .i64 (cmpv x.f0 k)) ∧ Below W.heap.size W w' := by
  have HB := Aside0.mk (Below.refl W.heap.size W)
  go_enter Try.func20, Try.ntmps20
  go_wp2_with (first | ((with_reducible refine gate_dst (N := 2) rfl ?_); refine box_event ?hg (N := 2) ?hd (cs := #[.int .u64 x.f0, .int .u64 x.f1]) (t := 53) ?hr ?_; (case hd => rfl); (case hg => rfl); (case hr => first | (go_simp; done) | (go_simp; rfl)); intro g hg w1 hbox hb; have n0_ := Aside0.mk (below_step HB.out hb); clear HB; have HB := n0_; clear n0_; have c0 : w1.cell? ⟨g, 0, none⟩ = some (.int .u64 x.f0) := (blk_cell hbox 0).trans rfl; clear hb hg hbox) | (go_at_call 21; (with_reducible refine (li_cmp _ _ _).mono ?_); rintro e w2 ⟨rfl, hq⟩; have hq2 := hq.symm; subst hq2; clear hq))
  go_ret
  exact ⟨rfl, HB.out⟩

theorem li_rd (l : List S53) (i : Nat) (h : i < l.length) : rd_T53 l (i : Int) = l[i] := by
  unfold rd_T53
  simp [List.getD, h]
theorem cmpv_lt (a b : Int) : decide (cmpv a b < 0) = decide (a < b) := by
  unfold cmpv
  by_cases c : a < b
  · simp [c]
  · by_cases d : b < a <;> simp [c, d]
theorem cmpv_eq (a b : Int) : (cmpv a b == 0) = (a == b) := by
  unfold cmpv
  by_cases c : a < b
  · have : ¬ a = b := by omega
    simp [c, this]
  · by_cases d : b < a
    · have : ¬ a = b := by omega
      simp [c, d, this]
    · have : a = b := by omega
      simp [this]
def kthere (l : List S53) (k : Int) : Bool := decide (kix l k < l.length ∧ (rd_T53 l (kix l k : Int)).f0 = k)
theorem rising_lt {l : List S53} (h : Rising l) (i j : Nat) (hij : i < j) (hj : j < l.length) : (l[i]'(by omega)).f0 < l[j].f0 := List.pairwise_iff_getElem.mp h i j (by omega) hj hij
set_option maxHeartbeats 8000000 in
set_option maxRecDepth 100000 in
theorem li_bsearch (A0 : Option Addr) (c0 : Nat) (l : List S53) (k : Int) (hl : l.length ≤ 1000000) (hs : Rising l) (W : World) (hr0 : Kd.C k53 W A0 l.length l) :
    Calls Try.prog 19 #[.slice A0 l.length c0, .int .u64 k, .func (.func 20) #[] #[]] W fun e w' => e = .returned (.tuple #[.int .i64 (kix l k : Int), .bool (kthere l k)]) ∧ Below W.heap.size W w' := by
  have HR := Aside0.mk hr0
  have HL := Aside0.mk hl
  have HS := Aside0.mk hs
  have HB := Aside0.mk (Below.refl W.heap.size W)
  clear hr0 hl hs
  go_enter Try.func19, Try.ntmps19
  go_wp2
  go_loopg [9, 10] l.length (fun kq v9 v10 wr => ∃ (i j : Nat), v9 = .int .i64 i ∧ v10 = .int .i64 j ∧ Aside0 (i ≤ j ∧ j ≤ l.length) ∧ Aside0 (∀ (p : Nat) (h : p < l.length), p < i → l[p].f0 < k) ∧ Aside0 (∀ (p : Nat) (h : p < l.length), j ≤ p → k ≤ l[p].f0) ∧ Aside0 (j - i ≤ kq) ∧ Aside0 (Below W.heap.size W wr))
  case atStart => exact ⟨0, l.length, rfl, rfl, ⟨⟨Nat.zero_le _, Nat.le_refl _⟩⟩, ⟨fun p h hp => by omega⟩, ⟨fun p h hp => by omega⟩, ⟨by omega⟩, HB⟩
  case round =>
    clear HB
    obtain ⟨i, j, rfl, rfl, HJ, HLO, HHI, HK, HB⟩ := hrel
    by_cases hij : i < j
    · have hb1 : decide ((i : Int) < (j : Int)) = true := decide_eq_true (by omega)
      have hH : ∃ m : Nat, m = (i + j) / 2 := ⟨_, rfl⟩
      obtain ⟨m, hm⟩ := hH
      have hm1 : i ≤ m ∧ m < j := by omega
      have hjl : j ≤ l.length := HJ.out.2
      have hll := HL.out
      have hw : wrap64 (IntKind.u64.wrap (wrap64 ((i : Int) + (j : Int))) / 2) = (m : Int) := by
        have e1 : wrap64 ((i : Int) + (j : Int)) = ((i + j : Nat) : Int) := by unfold wrap64; omega
        have e2 : IntKind.u64.wrap (((i + j : Nat) : Int)) = ((i + j : Nat) : Int) := by simp only [IntKind.wrap, IntKind.bits, IntKind.signed]; simp; omega
        rw [e1, e2]
        unfold wrap64
        omega
      have HWM := Aside0.mk hw
      obtain ⟨ad, eA, hx0, hx1⟩ := at_T53 (Kd.C_below HR.out HB.out) (m : Int) (by omega) (by omega)
      cases eA
      simp only [Int.toNat_natCast] at hx0 hx1
      have hm0 : (0 : Int) ≤ (m : Int) := by omega
      have hml : (m : Int) < (l.length : Int) := by omega
      have HM := Aside0.mk (And.intro hm1 hjl)
      clear hm hw hjl hll hij
      go_upto_region 5 with fail
      rw [HWM.out]
      by_cases hc : (rd_T53 l (m : Int)).f0 < k
      · have hcb : decide (cmpv (rd_T53 l (m : Int)).f0 k < 0) = true := by rw [cmpv_lt]; exact decide_eq_true hc
        have HC := Aside0.mk hc
        clear hc hm1
        go_wp2_with (first | (go_at_call 20; (with_reducible refine (li_key (rd_T53 l (m : Int)) k _).mono ?_); rintro e w1 ⟨rfl, hb⟩; have n0_ := Aside0.mk (below_step HB.out hb); clear HB hb; have HB := n0_; clear n0_))
        go_roundg (j - (m + 1))
        case measure => have := HM.out; have := HK.out; omega
        case rel =>
          have hm := HM.out
          have hj := HJ.out
          have hl := HL.out
          refine ⟨m + 1, j, by first | rfl | (rw [show wrap64 ((m : Int) + 1) = ((m + 1 : Nat) : Int) from by unfold wrap64; omega]), rfl, ⟨by omega⟩, ⟨fun p h hp => ?_⟩, HHI, ⟨by omega⟩, HB⟩
          have hrd := li_rd l m (by omega)
          have hcm := HC.out
          rw [hrd] at hcm
          rcases Nat.lt_or_ge p m with hpm | hpm
          · exact Int.lt_trans (rising_lt HS.out p m hpm (by omega)) hcm
          · have : p = m := by omega
            subst this
            exact hcm
      · have hcb : decide (cmpv (rd_T53 l (m : Int)).f0 k < 0) = false := by rw [cmpv_lt]; exact decide_eq_false hc
        have HC := Aside0.mk hc
        clear hc hm1
        go_wp2_with (first | (go_at_call 20; (with_reducible refine (li_key (rd_T53 l (m : Int)) k _).mono ?_); rintro e w1 ⟨rfl, hb⟩; have n0_ := Aside0.mk (below_step HB.out hb); clear HB hb; have HB := n0_; clear n0_))
        go_roundg (m - i)
        case measure => have := HM.out; have := HK.out; omega
        case rel =>
          have hm := HM.out
          have hj := HJ.out
          refine ⟨i, m, rfl, rfl, ⟨by omega⟩, HLO, ⟨fun p h hp => ?_⟩, ⟨by omega⟩, HB⟩
          have hrd := li_rd l m (by omega)
          have hcm := HC.out
          rw [hrd] at hcm
          rcases Nat.lt_or_ge m p with hpm | hpm
          · have := rising_lt HS.out m p hpm h
            omega
          · have : p = m := by omega
            subst this
            omega
    · have hb1 : decide ((i : Int) < (j : Int)) = false := decide_eq_false (by omega)
      have hij2 : i = j := by have := HJ.out; omega
      subst hij2
      have hki : kix l k = i := kix_of l k i HJ.out.2 (fun p h => HLO.out p (by have := HJ.out; omega) h) (fun h => HHI.out i h (Nat.le_refl _))
      have HKI := Aside0.mk hki
      clear hki hij
      by_cases hin : i < l.length
      · have hb2 : decide ((i : Int) < (l.length : Int)) = true := decide_eq_true (by omega)
        obtain ⟨ad, eA, hx0, hx1⟩ := at_T53 (Kd.C_below HR.out HB.out) (i : Int) (by omega) (by omega)
        cases eA
        simp only [Int.toNat_natCast] at hx0 hx1
        have hi0 : (0 : Int) ≤ (i : Int) := by omega
        have hil : (i : Int) < (l.length : Int) := by omega
        have HIN := Aside0.mk hin
        by_cases hc : (rd_T53 l (i : Int)).f0 = k
        · have hcb : (cmpv (rd_T53 l (i : Int)).f0 k == 0) = true := by rw [cmpv_eq]; exact beq_iff_eq.mpr hc
          have HC := Aside0.mk hc
          clear hc hin
          go_wp2_with (first | (go_at_call 20; (with_reducible refine (li_key (rd_T53 l (i : Int)) k _).mono ?_); rintro e w1 ⟨rfl, hb⟩; have n0_ := Aside0.mk (below_step HB.out hb); clear HB hb; have HB := n0_; clear n0_))
          go_ret2
          refine ⟨?_, HB.out⟩
          have : kthere l k = true := by unfold kthere; rw [HKI.out]; exact decide_eq_true ⟨HIN.out, HC.out⟩
          rw [this, HKI.out]
          rfl
        · have hcb : (cmpv (rd_T53 l (i : Int)).f0 k == 0) = false := by rw [cmpv_eq]; exact beq_eq_false_iff_ne.mpr hc
          have HC := Aside0.mk hc
          clear hc hin
          go_wp2_with (first | (go_at_call 20; (with_reducible refine (li_key (rd_T53 l (i : Int)) k _).mono ?_); rintro e w1 ⟨rfl, hb⟩; have n0_ := Aside0.mk (below_step HB.out hb); clear HB hb; have HB := n0_; clear n0_))
          go_ret2
          refine ⟨?_, HB.out⟩
          have : kthere l k = false := by unfold kthere; rw [HKI.out]; exact decide_eq_false (fun h => HC.out h.2)
          rw [this, HKI.out]
          rfl
      · have hb2 : decide ((i : Int) < (l.length : Int)) = false := decide_eq_false (by omega)
        have HIN := Aside0.mk hin
        have hnl : ¬ ((i : Int) < (l.length : Int)) := by omega
        clear hin
        go_wp2
        go_ret2
        refine ⟨?_, HB.out⟩
        have : kthere l k = false := by unfold kthere; rw [HKI.out]; exact decide_eq_false (fun h => HIN.out h.1)
        rw [this, HKI.out]
        rfl

def encs (l : List S53) : List Value := l.flatMap fun p => [.int .u64 p.f0, .int .u64 p.f1]
theorem encs_nil : encs [] = [] := rfl
theorem encs_cons (p : S53) (l : List S53) : encs (p :: l) = .int .u64 p.f0 :: .int .u64 p.f1 :: encs l := rfl
theorem encs_len (l : List S53) : (encs l).length = l.length * 2 := by
  induction l with
  | nil => rfl
  | cons p l ih => rw [encs_cons, List.length_cons, List.length_cons, ih, List.length_cons]; omega
theorem encs_app (l m : List S53) : encs (l ++ m) = encs l ++ encs m := List.flatMap_append
theorem encs_take (l : List S53) (i : Nat) : (encs l).take (i * 2) = encs (l.take i) := by
  induction l generalizing i with
  | nil => simp [encs_nil]
  | cons p l ih =>
    cases i with
    | zero => simp [encs_nil]
    | succ i => rw [encs_cons, List.take_succ_cons, encs_cons, show (i + 1) * 2 = i * 2 + 1 + 1 from by omega, List.take_succ_cons, List.take_succ_cons, ih]
theorem encs_drop (l : List S53) (i : Nat) : (encs l).drop (i * 2) = encs (l.drop i) := by
  induction l generalizing i with
  | nil => simp [encs_nil]
  | cons p l ih =>
    cases i with
    | zero => simp
    | succ i => rw [encs_cons, List.drop_succ_cons, show (i + 1) * 2 = i * 2 + 1 + 1 from by omega, List.drop_succ_cons, List.drop_succ_cons, ih]
theorem encs_one (l : List S53) : ∀ v ∈ encs l, v.oneCell' = true := by
  intro v hv
  unfold encs at hv
  rw [List.mem_flatMap] at hv
  obtain ⟨p, _, hp⟩ := hv
  simp only [List.mem_cons, List.not_mem_nil, or_false] at hp
  rcases hp with rfl | rfl <;> rfl
theorem reps_of_encs (W : World) (l : List S53) : Reps (k53.K W) 2 l (encs l) := by
  induction l with
  | nil => exact Reps.none _ _
  | cons p l ih => exact Reps.front (k53_mk W p) rfl ih rfl
theorem encs_of_reps {W : World} {l : List S53} {cs : List Value} (h : Reps (k53.K W) 2 l cs) : cs = encs l := by
  induction l generalizing cs with
  | nil => exact List.eq_nil_of_length_eq_zero (by simpa using h.1)
  | cons p l ih =>
    have hl := h.1
    rw [List.length_cons] at hl
    have h0 := k53_open (h.2 0 p rfl)
    rw [Nat.zero_mul, List.drop_zero] at h0
    have h1 : Reps (k53.K W) 2 l (cs.drop 2) := ⟨by rw [List.length_drop]; omega, fun j q hq => by
      have := h.2 (j + 1) q (by simpa using hq)
      rw [List.drop_drop, show 2 + j * 2 = (j + 1) * 2 from by omega]
      exact this⟩
    have h2 := ih h1
    rw [encs_cons, ← h2, ← List.take_append_drop 2 cs, h0]
    simp
/-- a row that is owned from base on -/
def OW (w : World) (base : Nat) (v : Value) (l : List S53) : Prop := w.ownsRow base 53 2 v l.length (encs l)
theorem OW.C {w : World} {base : Nat} {v : Value} {l : List S53} (h : OW w base v l) : ∃ A c, v = .slice A l.length c ∧ l.length ≤ c ∧ Kd.C k53 w A l.length l := by
  obtain ⟨A, c, e, hr⟩ := own_reads_row h (reps_of_encs w l) rfl
  refine ⟨A, c, e, ?_, hr⟩
  rcases h.2 with ⟨h1, h2⟩ | ⟨g, cap, cur, h1, _, _, h2, _⟩
  · omega
  · rw [h1] at e
    injection e with _ _ e3
    omega
theorem OW.below {w w' : World} {base : Nat} {v : Value} {l : List S53} (h : OW w base v l) (hb : Below w.heap.size w w') : OW w' base v l := by
  refine ⟨h.1, ?_⟩
  rcases h.2 with h1 | ⟨g, cap, cur, h1, h2, h3, h4⟩
  · exact .inl h1
  · exact .inr ⟨g, cap, cur, h1, h2, blk_below h3 hb, h4⟩
theorem OW.nil (w : World) (base : Nat) : OW w base (.slice none 0 0) [] := ⟨rfl, .inl ⟨rfl, rfl⟩⟩
theorem li_pinfo0 : (Try.prog.info? 53).map (fun i => (i.zero, i.size, i.bytes)) = some (some (.agg #[.int .u64 0, .int .u64 0]), 2, 16) := by kernel_rfl
theorem li_pinfo : ∃ i0, Try.prog.info? 53 = some i0 ∧ i0.zero = some (.agg #[.int .u64 0, .int .u64 0]) ∧ i0.size = 2 ∧ i0.bytes = 16 := by
  obtain ⟨i0, hi, hz⟩ := Option.map_eq_some_iff.1 li_pinfo0
  simp only [Prod.mk.injEq] at hz
  exact ⟨i0, hi, hz.1, hz.2.1, hz.2.2⟩
theorem wqPut_list : ∀ (vs : List Value) (cs : Array Value) (k : Nat), k + vs.length ≤ cs.size → (wqPut cs k vs).toList = cs.toList.take k ++ vs ++ cs.toList.drop (k + vs.length)
  | [], cs, k, h => by simp [wqPut]
  | v :: r, cs, k, h => by
    rw [List.length_cons] at h
    rw [wqPut, wqPut_list r _ _ (by rw [Array.size_setIfInBounds]; omega), Array.toList_setIfInBounds, List.length_cons]
    have hk : k < cs.toList.length := by rw [Array.length_toList]; omega
    rw [List.take_set, List.drop_set_of_lt (by omega), show k + 1 + r.length = k + (r.length + 1) from by omega, List.take_succ_eq_append_getElem hk]
    rw [List.set_append_right _ _ (by rw [List.length_take]; omega), List.length_take, Nat.min_eq_left (by omega), Nat.sub_self]
    simp
/-- the builtin copy, at whole blocks -/
theorem wq_run_copy {P : Program} {W : World} {t t' ty e : TypeId} {k : Nat} (ht : P.underlying t = some (.slice e)) (hi : (P.info? e).map (·.size) = some k) {g i dLen dCap g2 i2 sLen sCap n : Nat} (hn : Nat.min sLen dLen = n) {t1 t2 : TypeId} {cs cs2 : Array Value} {vs : List Value}
    (hb2 : W.heap[g2]? = some (.cells cs2 t2 (0, 0))) (hv : (cs2.toList.drop i2).take (n * k) = vs) (hl : vs.length = n * k) (hb : W.heap[g]? = some (.cells cs t1 (0, 0))) (hsz : i + n * k ≤ cs.size) (h1 : ∀ v ∈ vs, v.oneCell' = true) :
    ∃ w', (Builtin.copy_ #[t, t'] ty #[.slice (some ⟨g, i, none⟩) dLen dCap, .slice (some ⟨g2, i2, none⟩) sLen sCap]).run P W = .ok (goInt n) w' ∧ w'.heap[g]? = some (.cells (wqPut cs i vs) t1 (0, 0)) ∧ W.grownBy w' (some g) := by
  obtain ⟨w', e1, e2, e3⟩ := wq_stores (P := P) g i t1 vs 0 W cs hb (by omega) h1
  rw [Nat.add_zero] at e2
  refine ⟨w', ?_, e2, e3⟩
  cases hq : P.info? e with
  | none => simp [hq] at hi
  | some q =>
    have hs : q.size = k := by simpa [hq] using hi
    have hld := wq_loads (P := P) W g2 i2 cs2 t2 (n * k) vs hb2 hv hl
    simp [Builtin.copy_, Builtin.lenOf, Builtin.firstCells, Sem.run_bind, run_underlying ht, sizeOf, typeInfo, hq, hs, hn, hld, e1]
set_option maxHeartbeats 8000000 in
set_option maxRecDepth 100000 in
theorem li_clone (ad : Addr) (c0 : Nat) (l : List S53) (W : World) (hr0 : Kd.C k53 W (some ad) l.length l) (hlen : l.length ≤ 1000000) :
    Calls Try.prog 22 #[.slice (some ad) l.length c0] W fun e w' => ∃ v, e = .returned v ∧ OW w' W.heap.size v l ∧ Below W.heap.size W w' := by
  obtain ⟨inner, hrep, hcell⟩ := ReadsRow.inner_ (show ReadsRow (k53.K W) 2 W (some ad) l.length l from hr0)
  have hie := encs_of_reps hrep
  subst hie
  have HC := Aside0.mk hcell
  have HL := Aside0.mk hlen
  clear hr0 hrep hcell hlen
  obtain ⟨i0, hi, hz0, hz1, hz2⟩ := li_pinfo
  have q22 : ∀ (w : World) (a : Option Addr) (n c n' c' : Nat), (binOp .eql 22 (.slice a n c) (.slice none n' c')).run Try.prog w = .ok (.bool a.isNone) w := by
    intro w a n c n' c'
    cases a <;> (simp [binOp, Op.equal, Op.equalIn, run_underlying Try.underlying22] <;> rfl)
  go_enter Try.func22, Try.ntmps22
  go_wp2_with (at_builtin; refine wpList_append_own _ rfl _ _ 22 rfl W.heap.size 53 i0 (.agg #[(.int .u64 0), (.int .u64 0)]) 2 16 Try.underlying22 hi hz0 hz1 hz2 rfl (by decide) _ _ _ rfl (World.ownsRow_made W #[] 0 (Nat.le_refl _) (Nat.zero_le _) rfl) ad l.length c0 (encs l) rfl ?qc1 ?qc2 ?qc3 ?qc4 ?qc5 ?qc6 ?_)
  case qc1 => exact encs_len l
  case qc2 =>
    intro j u hj
    have hx := HC.out j u hj
    exact ((below_alloc (Below.refl _ _) _).cell (World.block_lt_of_cell? W _ hx)).trans hx
  case qc3 => exact encs_one l
  case qc4 => have := HL.out; unfold maxLen; omega
  case qc5 => have := HL.out; omega
  case qc6 => simp
  intro v' w1 hown hgrow hnil
  go_wp2
  go_ret
  refine ⟨v', rfl, by simpa [OW] using hown, ?_⟩
  exact ((Below.refl _ W).alloc (Nat.le_refl _) _).grown hgrow (by simp) (by intro k hk; simp [Value.ownBlock] at hk; omega)
set_option maxHeartbeats 8000000 in
set_option maxRecDepth 100000 in
theorem li_clone0 (c0 : Nat) (W : World) :
    Calls Try.prog 22 #[.slice none 0 c0] W fun e w' => ∃ v, e = .returned v ∧ OW w' W.heap.size v [] ∧ Below W.heap.size W w' := by
  have HB := Aside0.mk (Below.refl W.heap.size W)
  have q22 : ∀ (w : World) (a : Option Addr) (n c n' c' : Nat), (binOp .eql 22 (.slice a n c) (.slice none n' c')).run Try.prog w = .ok (.bool a.isNone) w := by
    intro w a n c n' c'
    cases a <;> (simp [binOp, Op.equal, Op.equalIn, run_underlying Try.underlying22] <;> rfl)
  go_enter Try.func22, Try.ntmps22
  go_wp2
  go_ret
  exact ⟨_, rfl, OW.nil _ _, HB.out⟩
theorem cell_two_new (w : World) (x y : Value) (t : TypeId) : ∀ j u, ([x, y] : List Value)[j]? = some u → (w.alloc (.cells #[x, y] t)).cell? ((⟨w.heap.size, 0, none⟩ : Addr).add j) = some u := by
  intro j u hj
  rw [wq_add, blk_cell (blk_new w _)]
  match j, hj with
  | 0, hj => simpa using hj
  | 1, hj => simpa using hj

def insl (l : List S53) (i : Nat) (x : S53) : List S53 := l.take i ++ x :: l.drop i
theorem insl_len (l : List S53) (i : Nat) (x : S53) (h : i ≤ l.length) : (insl l i x).length = l.length + 1 := by
  unfold insl
  rw [List.length_append, List.length_cons, List.length_take, List.length_drop]
  omega
theorem encs_ins (l : List S53) (i : Nat) (x : S53) : encs (insl l i x) = (encs l).take (i * 2) ++ [.int .u64 x.f0, .int .u64 x.f1] ++ (encs l).drop (i * 2) := by
  unfold insl
  rw [encs_app, encs_cons, encs_take, encs_drop, List.append_assoc]
  rfl
set_option maxHeartbeats 8000000 in
set_option maxRecDepth 100000 in
theorem li_insA (N : Nat) (v : Value) (l : List S53) (x : S53) (gx vc : Nat) (tx : TypeId) (W : World) (hown : OW W N v l) (hN : N ≤ W.heap.size) (hlen : l.length ≤ 1000000)
    (hx : W.heap[gx]? = some (.cells #[.int .u64 x.f0, .int .u64 x.f1] tx (0, 0))) :
    Calls Try.prog 23 #[v, .int .i64 l.length, .slice (some ⟨gx, 0, none⟩) 1 vc] W fun e w' => ∃ v', e = .returned v' ∧ OW w' N v' (insl l l.length x) ∧ Below N W w' := by
  obtain ⟨i0, hi, hz0, hz1, hz2⟩ := li_pinfo
  have HN := Aside0.mk hN
  have HL := Aside0.mk hlen
  have HO := Aside0.mk hown
  have HX := Aside0.mk hx
  have hcell : ∀ j u, ([.int .u64 x.f0, .int .u64 x.f1] : List Value)[j]? = some u → W.cell? ((⟨gx, 0, none⟩ : Addr).add j) = some u := by
    intro j u hj
    rw [wq_add, blk_cell hx]
    match j, hj with
    | 0, hj => simpa using hj
    | 1, hj => simpa using hj
  have HC := Aside0.mk hcell
  clear hN hlen hcell hx
  have fin : ∀ v' w1, w1.ownsRow N 53 2 v' (l.length + 1) (encs l ++ [.int .u64 x.f0, .int .u64 x.f1]) → W.grownBy w1 v.ownBlock → OW w1 N v' (insl l l.length x) ∧ Below N W w1 := by
    intro v' w1 h1 h2
    refine ⟨?_, (Below.refl N W).grown h2 HN.out (fun k hk => (HO.out.lt k hk).1)⟩
    unfold OW
    rw [insl_len _ _ _ (Nat.le_refl _), encs_ins, List.take_of_length_le (by rw [encs_len]; omega), List.drop_of_length_le (by rw [encs_len]; omega), List.append_nil]
    exact h1
  rcases hown.2 with ⟨rfl, h0⟩ | ⟨g, cap, cur, rfl, hNg, hg, hnc, hcm, hcs, htk⟩
  · have hl0 : l = [] := List.eq_nil_of_length_eq_zero h0
    subst hl0
    go_enter Try.func23, Try.ntmps23
    go_wp2_with (at_builtin; refine wpList_append_own _ rfl _ _ 22 rfl N 53 i0 (.agg #[(.int .u64 0), (.int .u64 0)]) 2 16 Try.underlying22 hi hz0 hz1 hz2 rfl (by decide) _ _ _ rfl HO.out ⟨gx, 0, none⟩ 1 vc [.int .u64 x.f0, .int .u64 x.f1] rfl rfl HC.out (by simp [Value.oneCell']) (by decide) (by decide) HN.out ?_)
    intro v' w1 h1 h2 _
    obtain ⟨q1, q2⟩ := fin v' w1 h1 h2
    go_wp2
    go_ret
    exact ⟨v', rfl, q1, q2⟩
  · have hcap := Aside0.mk (And.intro hnc hcm)
    clear hnc hcm hcs htk hg
    have b1 : (0 : Int) ≤ (l.length : Int) := by omega
    have b2 : (l.length : Int) ≤ (l.length : Int) := by omega
    go_enter Try.func23, Try.ntmps23
    go_wp2_with (at_builtin; refine wpList_append_own _ rfl _ _ 22 rfl N 53 i0 (.agg #[(.int .u64 0), (.int .u64 0)]) 2 16 Try.underlying22 hi hz0 hz1 hz2 rfl (by decide) _ _ _ rfl HO.out ⟨gx, 0, none⟩ 1 vc [.int .u64 x.f0, .int .u64 x.f1] rfl rfl HC.out (by simp [Value.oneCell']) (by have := HL.out; unfold maxLen; omega) (by have := HL.out; omega) HN.out ?_)
    all_goals (
      intro v' w1 h1 h2 _
      obtain ⟨q1, q2⟩ := fin v' w1 h1 h2
      go_wp2
      go_ret
      exact ⟨v', rfl, q1, q2⟩)
section
variable {P : Program}
theorem wq_copy {ops : Array Oper} {rest : List Oper} {o : Oper} {a : Act} {Q : Exit → Act → World → Prop} {W : World} (hgd : o.guard = none) (d s : Operand) (t t' : TypeId)
    (ho : o.op = .call { callee := .builtin .copy, args := #[d, s], argTypes := #[t, t'] }) {v u v' : Value} (hd : a.eval d = v) (hs : a.eval s = u) {R : World → Prop}
    (hr : ∃ w', (Builtin.copy_ #[t, t'] o.type #[v, u]).run P W = .ok v' w' ∧ R w') (h : ∀ w', R w' → wpList P ops Q rest (a.put o.dst v') w') : wpList P ops Q (o :: rest) a W := by
  obtain ⟨w', hr, hR⟩ := hr
  refine wpList_plain hgd fun K hK => ?_
  unfold Oper.wp execOp
  simp only [ho, resolve, invoke, builtin, Sem.run_bind, Sem.run_pure, Result.andThen_ok, List.map_toArray, List.map_cons, List.map_nil, hd, hs, hr]
  exact hK _ _ (h w' hR)
theorem wq_copy_step {ops : Array Oper} {o : Oper} {a : Act} {w : World} {K : Act → World → Prop} {Q : Exit → Act → World → Prop} {E : Prop}
    (hg : o.guard = none) (d x : Operand) (dT sT : TypeId) (hop : o.op = Op.call { callee := Callee.builtin Builtin.copy, args := #[d, x], argTypes := #[dT, sT] })
    {v u v' : Value} (hd : a.eval d = v) (hx : a.eval x = u) {R : World → Prop} (hr : ∃ w', (Builtin.copy_ #[dT, sT] o.type #[v, u]).run P w = .ok v' w' ∧ R w') (hK : ∀ w', R w' → K (a.put o.dst v') w') :
    if Region.wanted o (yielded ops a.tmps) = true then Oper.wp P o a w K Q else E := by
  obtain ⟨w', hr, hR⟩ := hr
  have hw : Region.wanted o (yielded ops a.tmps) = true := by simp [Region.wanted, hg]
  rw [if_pos hw]
  unfold Oper.wp
  simp [execOp, hop, resolve, invoke, builtin, hd, hx, hr, Result.andThen]
  exact hK _ hR
end
theorem encs_shift (cs : Array Value) (l : List S53) (i cap : Nat) (x : S53) (h1 : cs.size = cap * 2) (h2 : l.length + 1 ≤ cap) (h3 : cs.toList.take (l.length * 2) = encs l) (hi : i ≤ l.length) :
    (wqPut (wqPut cs ((i + 1) * 2) (encs (l.drop i))) (i * 2) [.int .u64 x.f0, .int .u64 x.f1]).size = cap * 2 ∧
    (wqPut (wqPut cs ((i + 1) * 2) (encs (l.drop i))) (i * 2) [.int .u64 x.f0, .int .u64 x.f1]).toList.take ((l.length + 1) * 2) = encs (insl l i x) := by
  have hd : (encs (l.drop i)).length = (l.length - i) * 2 := by rw [encs_len, List.length_drop]
  have e1 := wqPut_list (encs (l.drop i)) cs ((i + 1) * 2) (by omega)
  have s1 : (wqPut cs ((i + 1) * 2) (encs (l.drop i))).size = cap * 2 := by
    rw [← Array.length_toList, e1]
    simp only [List.length_append, List.length_take, List.length_drop, Array.length_toList, hd]
    omega
  have e2 := wqPut_list [.int .u64 x.f0, .int .u64 x.f1] (wqPut cs ((i + 1) * 2) (encs (l.drop i))) (i * 2) (by rw [s1]; simp; omega)
  refine ⟨?_, ?_⟩
  · rw [← Array.length_toList, e2]
    simp only [List.length_append, List.length_take, List.length_drop, Array.length_toList, s1, List.length_cons, List.length_nil]
    omega
  · rw [e2, e1, encs_ins, encs_drop]
    have a1 : ((cs.toList.take ((i + 1) * 2) ++ encs (l.drop i) ++ cs.toList.drop ((i + 1) * 2 + (encs (l.drop i)).length)).take (i * 2)) = (encs l).take (i * 2) := by
      rw [List.append_assoc, List.take_append_of_le_length (by rw [List.length_take, Array.length_toList]; omega), List.take_take, ← h3, List.take_take]
      congr 1
      omega
    have a2 : ((cs.toList.take ((i + 1) * 2) ++ encs (l.drop i) ++ cs.toList.drop ((i + 1) * 2 + (encs (l.drop i)).length)).drop (i * 2 + [Value.int .u64 x.f0, .int .u64 x.f1].length)) = encs (l.drop i) ++ cs.toList.drop ((i + 1) * 2 + (encs (l.drop i)).length) := by
      rw [List.append_assoc]
      have : i * 2 + [Value.int .u64 x.f0, .int .u64 x.f1].length = (cs.toList.take ((i + 1) * 2)).length := by
        rw [List.length_take, Array.length_toList]; simp; omega
      rw [this, List.drop_left]
    rw [a1, a2]
    have a3 : ((l.length + 1) * 2) = ((encs l).take (i * 2) ++ [Value.int .u64 x.f0, .int .u64 x.f1] ++ encs (l.drop i)).length := by
      simp only [List.length_append, List.length_take, encs_len, List.length_cons, List.length_nil, List.length_drop]
      omega
    rw [← List.append_assoc, a3, List.take_left]
theorem li_psz : (Try.prog.info? 53).map (·.size) = some 2 := by
  obtain ⟨i0, h0, _, h2, _⟩ := li_pinfo
  rw [h0]
  simp [h2]
theorem li_psize (w : World) : (Go.sizeOf 53).run Try.prog w = .ok 2 w := by
  obtain ⟨i0, hi, _, hs, _⟩ := li_pinfo
  simp [sizeOf, typeInfo, hi, hs]
set_option maxHeartbeats 8000000 in
set_option maxRecDepth 100000 in
theorem li_insB (N : Nat) (l : List S53) (i : Nat) (x : S53) (g cap gx vc : Nat) (tx : TypeId) (cur : Array Value) (W : World) (hg : W.heap[g]? = some (.cells cur 53 (0, 0))) (hcm : cap ≤ maxLen) (hcs : cur.size = cap * 2) (htk : cur.toList.take (l.length * 2) = encs l) (hlen : l.length ≤ 1000000)
    (hx : W.heap[gx]? = some (.cells #[.int .u64 x.f0, .int .u64 x.f1] tx (0, 0))) (hne : gx ≠ g) (hi : i < l.length) (hroom : l.length + 1 ≤ cap) :
    Calls Try.prog 23 #[.slice (some ⟨g, 0, none⟩) l.length cap, .int .i64 i, .slice (some ⟨gx, 0, none⟩) 1 vc] W fun e w' => ∃ cur', e = .returned (.slice (some ⟨g, 0, none⟩) (l.length + 1) cap) ∧ w'.heap[g]? = some (.cells cur' 53 (0, 0)) ∧ cur'.size = cap * 2 ∧ cur'.toList.take ((l.length + 1) * 2) = encs (insl l i x) ∧ (∀ M, M ≤ g → M ≤ W.heap.size → Below M W w') := by
  have HX := Aside0.mk hx
  have HG := Aside0.mk hg
  have hz2 : ¬ ((i : Int) = (l.length : Int)) := by omega
  have b1 : (0 : Int) ≤ (i : Int) := by omega
  have b2 : (i : Int) ≤ (l.length : Int) := by omega
  have hov : ∀ lb cb off, (callFunc 28 #[.slice (some ⟨gx, 0, none⟩) 1 vc, .slice (some ⟨g, off, none⟩) lb cb]).run Try.prog W = .ok (.value (.bool false)) W := fun lb cb off => by
    rw [run_callFunc_extern Try.func28 (by kernel_rfl) (by kernel_rfl) (by kernel_rfl) (e := Extern.SlicesOverlaps.overlaps #[22, 22] #[4]) (by kernel_rfl)]
    rw [Lib.run_overlaps_apart W 22 4 53 Try.underlying22 2 (fun w => li_psize w) ⟨gx, 0, none⟩ ⟨g, off, none⟩ 1 vc lb cb hne tx 53 2 (cap * 2) (by simp [World.shape?, HX.out]) (by simp [World.shape?, HG.out, hcs]) (by omega) (blk_frozen HX.out 0) (blk_frozen HX.out 2)]
    rfl
  have b3 : (l.length : Int) + 1 ≤ (cap : Int) := by omega
  have hw1 : IntKind.i64.wrap ((i : Int) + 1) = (i : Int) + 1 := by rw [IntKind.wrap_i64]; omega
  have b4 : (0 : Int) ≤ (i : Int) + 1 := by omega
  have b5 : (i : Int) + 1 ≤ (l.length : Int) + 1 := by omega
  go_enter Try.func23, Try.ntmps23
  have hdl : (encs (l.drop i)).length = (l.length - i) * 2 := by rw [encs_len, List.length_drop]
  have hv1 : (cur.toList.drop (i * 2)).take ((l.length - i) * 2) = encs (l.drop i) := by
    rw [← encs_drop, ← htk, List.drop_take]
    congr 1
    omega
  have hcp1 := fun (ty : TypeId) (dc sc : Nat) => wq_run_copy (P := Try.prog) (W := W.drew) (t' := 22) (ty := ty) (dCap := dc) (sCap := sc) Try.underlying22 li_psz (g := g) (i := (i + 1) * 2) (dLen := l.length - i) (g2 := g) (i2 := i * 2) (sLen := l.length + 1 - i) (n := l.length - i) (by simp only [Nat.min_def]; split <;> omega) HG.out hv1 hdl HG.out (by rw [hcs]; omega) (encs_one _)
  have HE := Aside0.mk (encs_shift cur l i cap x hcs hroom htk (Nat.le_of_lt hi))
  have SZ := Aside0.mk (show (wqPut cur ((i + 1) * 2) (encs (l.drop i))).size = cap * 2 from by
    rw [← Array.length_toList, wqPut_list _ _ _ (by rw [hdl, hcs]; omega)]
    simp only [List.length_append, List.length_take, List.length_drop, Array.length_toList, hdl]
    omega)
  have htn : ((i : Int) + 1).toNat = i + 1 := by omega
  have hb2 : ¬ (cap = i + 1) := by omega
  have hb3 : (i : Int) ≤ (l.length : Int) + 1 := by omega
  have hb4 : ¬ (cap = i) := by omega
  go_wp2_with (simp only [hov])
  go_region_law (refine wq_copy_step (R := fun w' => w'.heap[g]? = some (.cells (wqPut cur ((i + 1) * 2) (encs (l.drop i))) 53 (0, 0)) ∧ W.drew.grownBy w' (some g)) (v := .slice (some ⟨g, (i + 1) * 2, none⟩) (l.length - i) (cap - (i + 1))) (u := .slice (some ⟨g, i * 2, none⟩) (l.length + 1 - i) (cap - i)) rfl (.tmp 73) (.tmp 76) 22 22 rfl (by simp [Act.eval, Act.put]) (by simp [Act.eval, Act.put]) (hcp1 _ (cap - (i + 1)) (cap - i)) ?_; rintro w1 ⟨hb1, hg1⟩; have B1 := Aside0.mk hb1; have G1 := Aside0.mk hg1; clear hb1 hg1)
  go_wp2_with ((refine wq_copy rfl (.tmp 80) (.tmp 81) 22 22 rfl (v := .slice (some ⟨g, i * 2, none⟩) (l.length + 1 - i) (cap - i)) (u := .slice (some ⟨gx, 0, none⟩) 1 vc) (R := fun w' => w'.heap[g]? = some (.cells (wqPut (wqPut cur ((i + 1) * 2) (encs (l.drop i))) (i * 2) [.int .u64 x.f0, .int .u64 x.f1]) 53 (0, 0)) ∧ w1.grownBy w' (some g)) rfl rfl (wq_run_copy (n := 1) Try.underlying22 li_psz (by simp only [Nat.min_def]; split <;> omega) (wq_blk (blk_drew HX.out) G1.out hne) rfl rfl B1.out (by rw [SZ.out]; omega) (by simp [Value.oneCell'])) ?_); rintro w2 ⟨hb2, hg2⟩; have B2 := Aside0.mk hb2; have G2 := Aside0.mk hg2; clear hb2 hg2)
  go_ret
  refine ⟨_, rfl, B2.out, HE.out.1, HE.out.2, fun M h1 h2 => ?_⟩
  have q1 := (below_drew1 (Below.refl M W)).grown G1.out h2 (fun k hk => by cases hk; exact h1)
  exact q1.grown G2.out (Nat.le_trans h2 q1.size) (fun k hk => by cases hk; exact h1)

section
variable {P : Program}
theorem wq_app {ops : Array Oper} {rest : List Oper} {o : Oper} {a : Act} {Q : Exit → Act → World → Prop} {W w' : World} (hgd : o.guard = none) (d s : Operand) (t t' : TypeId)
    (ho : o.op = .call { callee := .builtin .append, args := #[d, s], argTypes := #[t, t'] }) {v u v' : Value} (hd : a.eval d = v) (hs : a.eval s = u)
    (hr : (Builtin.append_ #[t, t'] o.type #[v, u]).run P W = .ok v' w') (h : wpList P ops Q rest (a.put o.dst v') w') : wpList P ops Q (o :: rest) a W := by
  refine wpList_plain hgd fun K hK => ?_
  unfold Oper.wp execOp
  simp only [ho, resolve, invoke, builtin, Sem.run_bind, Sem.run_pure, Result.andThen_ok, List.map_toArray, List.map_cons, List.map_nil, hd, hs, hr]
  exact hK _ _ h
end
theorem encs_shift2 (X : Array Value) (l : List S53) (i cap : Nat) (x : S53) (h1 : X.size = cap * 2) (h2 : l.length + 1 ≤ cap) (h3 : X.toList.take (i * 2) = encs (l.take i)) (hi : i ≤ l.length) :
    (wqPut X (i * 2) [.int .u64 x.f0, .int .u64 x.f1]).size = cap * 2 ∧
    (wqPut (wqPut X (i * 2) [.int .u64 x.f0, .int .u64 x.f1]) ((i + 1) * 2) (encs (l.drop i))).size = cap * 2 ∧
    (wqPut (wqPut X (i * 2) [.int .u64 x.f0, .int .u64 x.f1]) ((i + 1) * 2) (encs (l.drop i))).toList.take ((l.length + 1) * 2) = encs (insl l i x) := by
  have hd : (encs (l.drop i)).length = (l.length - i) * 2 := by rw [encs_len, List.length_drop]
  have e1 := wqPut_list [.int .u64 x.f0, .int .u64 x.f1] X (i * 2) (by simp; omega)
  have s1 : (wqPut X (i * 2) [.int .u64 x.f0, .int .u64 x.f1]).size = cap * 2 := by
    rw [← Array.length_toList, e1]
    simp only [List.length_append, List.length_take, List.length_drop, Array.length_toList, List.length_cons, List.length_nil]
    omega
  have e2 := wqPut_list (encs (l.drop i)) (wqPut X (i * 2) [.int .u64 x.f0, .int .u64 x.f1]) ((i + 1) * 2) (by rw [s1, hd]; omega)
  refine ⟨s1, ?_, ?_⟩
  · rw [← Array.length_toList, e2]
    simp only [List.length_append, List.length_take, List.length_drop, Array.length_toList, s1, hd]
    omega
  · have a1 : (wqPut X (i * 2) [.int .u64 x.f0, .int .u64 x.f1]).toList.take ((i + 1) * 2) = encs (l.take i) ++ [.int .u64 x.f0, .int .u64 x.f1] := by
      rw [e1, h3, List.take_left' (by simp only [List.length_append, encs_len, List.length_take, List.length_cons, List.length_nil]; omega)]
    rw [e2, a1, List.take_left' (by simp only [List.length_append, encs_len, List.length_take, List.length_cons, List.length_nil, List.length_drop]; omega)]
    rw [encs_ins, encs_take, encs_drop]
set_option maxHeartbeats 8000000 in
set_option maxRecDepth 100000 in
theorem li_insC (l : List S53) (i : Nat) (x : S53) (g cap gx vc : Nat) (tx : TypeId) (cur : Array Value) (W : World) (hg : W.heap[g]? = some (.cells cur 53 (0, 0))) (hcm : cap ≤ maxLen) (hcs : cur.size = cap * 2) (htk : cur.toList.take (l.length * 2) = encs l) (hlen : l.length ≤ 1000000)
    (hx : W.heap[gx]? = some (.cells #[.int .u64 x.f0, .int .u64 x.f1] tx (0, 0))) (hi : i < l.length) (hnc : l.length ≤ cap) (hroom : cap < l.length + 1) :
    Calls Try.prog 23 #[.slice (some ⟨g, 0, none⟩) l.length cap, .int .i64 i, .slice (some ⟨gx, 0, none⟩) 1 vc] W fun e w' => ∃ v', e = .returned v' ∧ OW w' W.heap.size v' (insl l i x) ∧ Below W.heap.size W w' := by
  have HX := Aside0.mk hx
  have HG := Aside0.mk hg
  obtain ⟨i0, hp0, hp1, hp2, hp3⟩ := li_pinfo
  have hz2 : ¬ ((i : Int) = (l.length : Int)) := by omega
  have b1 : (0 : Int) ≤ (i : Int) := by omega
  have b2 : (i : Int) ≤ (l.length : Int) := by omega
  have b3 : ¬ ((l.length : Int) + 1 ≤ (cap : Int)) := by omega
  have hw1 : IntKind.i64.wrap ((i : Int) + 1) = (i : Int) + 1 := by rw [IntKind.wrap_i64]; omega
  have b4 : (0 : Int) ≤ (i : Int) + 1 := by omega
  have b5 : (i : Int) + 1 ≤ (l.length : Int) + 1 := by omega
  have hkk : (l.length : Int) + 1 - (i : Int) = ((l.length + 1 - i : Nat) : Int) := by omega
  have hfc : (Builtin.firstCells i0.size i (.slice (some ⟨g, 0, none⟩) i cap)).run Try.prog W.drew = .ok (encs (l.take i)).toArray W.drew := by
    show (loadCells ⟨g, 0, none⟩ (i * i0.size)).run Try.prog W.drew = _
    rw [hp2]
    refine wq_loads W.drew g 0 cur _ (i * 2) _ HG.out ?_ (by rw [encs_len, List.length_take]; omega)
    rw [List.drop_zero, ← encs_take, ← htk, List.take_take]
    congr 1
    omega
  obtain ⟨C2, hC2⟩ : ∃ C2, C2 = grownCap W (i + (l.length + 1 - i)) cap 53 := ⟨_, rfl⟩
  have hC3 : l.length + 1 ≤ C2 := by rw [hC2]; exact Nat.le_trans (by omega) (grownCap_ge W _ cap _)
  have hC4 : C2 ≤ maxLen := by rw [hC2]; exact grownCap_le_maxLen W _ cap _ (by unfold maxLen; omega)
  obtain ⟨X, hX⟩ : ∃ X : Array Value, X = (encs (l.take i)).toArray ++ Builtin.zeroCells (Value.agg #[.int .u64 0, .int .u64 0]).cells (l.length + 1 - i) ++ Builtin.zeroCells (Value.agg #[.int .u64 0, .int .u64 0]).cells (C2 - (i + (l.length + 1 - i))) := ⟨_, rfl⟩
  have hXs : X.size = C2 * 2 := by
    rw [hX, Array.size_append, Array.size_append, size_zeroCells, size_zeroCells, List.size_toArray, encs_len, List.length_take]
    show _ + _ * 2 + _ * 2 = _
    omega
  have hXt : X.toList.take (i * 2) = encs (l.take i) := by
    rw [hX, Array.toList_append, Array.toList_append, List.append_assoc, List.take_left' (by rw [List.toList_toArray, encs_len, List.length_take]; omega), List.toList_toArray]
  obtain ⟨z1, z2, z3⟩ := encs_shift2 X l i C2 x hXs hC3 hXt (Nat.le_of_lt hi)
  have Z1 := Aside0.mk z1
  have Z2 := Aside0.mk z2
  have Z3 := Aside0.mk z3
  clear z1 z2 z3
  have hrun : ∀ ty, (Builtin.append_ #[22, 3] ty #[.slice (some ⟨g, 0, none⟩) i cap, .int .i64 ((l.length + 1 - i : Nat) : Int)]).run Try.prog W = .ok (.slice (some ⟨W.heap.size, 0, none⟩) (l.length + 1) C2) (W.drew.alloc (.cells X 53)) := fun ty => by
    have := Lib.run_append_grow_zeros (P := Try.prog) W 22 3 ty 53 i0 (.agg #[.int .u64 0, .int .u64 0]) .i64 .i64 Try.underlying22 Try.underlying3 hp0 hp1 (some ⟨g, 0, none⟩) i cap (encs (l.take i)) hfc (l.length + 1 - i) (by omega) (by rw [hp2]; decide) (by omega) (by omega) (by rw [hp3]; omega) (by rw [hp3]; exact growslice_fits (by omega) (by omega))
    rw [this, ← hC2, ← hX]
    congr 2
    omega
  have hrun2 : ∀ ty, (Builtin.append_ #[22, 3] ty #[.slice (some ⟨g, 0, none⟩) i cap, .int .i64 ((l.length : Int) + 1 - (i : Int))]).run Try.prog W = .ok (.slice (some ⟨W.heap.size, 0, none⟩) (l.length + 1) C2) (W.drew.alloc (.cells X 53)) := fun ty => by
    rw [hkk]
    exact hrun ty
  have HB0 := Aside0.mk (show Below W.heap.size W (W.drew.alloc (.cells X 53)) from below_alloc (below_drew1 (Below.refl _ _)) _)
  have HA0 := Aside0.mk (show (W.drew.alloc (.cells X 53)).heap[W.heap.size]? = some (.cells X 53 (0, 0)) from blk_new W.drew _)
  have hgl := Aside0.mk (blk_lt hg)
  have hgxl := Aside0.mk (blk_lt hx)
  obtain ⟨g2, hg2⟩ : ∃ g2, g2 = W.heap.size := ⟨_, rfl⟩
  obtain ⟨W1, hW1⟩ : ∃ W1, W1 = W.drew.alloc (.cells X 53) := ⟨_, rfl⟩
  rw [← hW1, ← hg2] at HA0
  rw [← hW1] at HB0
  simp only [← hW1, ← hg2] at hrun2
  have G2 := Aside0.mk hg2
  clear hg2 hW1 hrun hkk hX hC2 hfc
  have hdl : (encs (l.drop i)).length = (l.length - i) * 2 := by rw [encs_len, List.length_drop]
  have hv1 : (cur.toList.drop (i * 2)).take ((l.length - i) * 2) = encs (l.drop i) := by
    rw [← encs_drop, ← htk, List.drop_take]
    congr 1
    omega
  have HV := Aside0.mk hv1
  have htn : ((i : Int) + 1).toNat = i + 1 := by omega
  have c1 : (i : Int) ≤ (cap : Int) := by omega
  have c2 : (i : Int) ≤ (l.length : Int) + 1 := by omega
  have c3 : ¬ (C2 = i) := by omega
  have c4 : ¬ (C2 = i + 1) := by omega
  have c5 : ¬ (cap = i) := by omega
  go_enter Try.func23, Try.ntmps23
  go_wp2_with (first
    | (refine wq_app rfl (.tmp 34) (.tmp 39) 22 3 rfl (v := .slice (some ⟨g, 0, none⟩) i cap) (u := .int .i64 ((l.length : Int) + 1 - (i : Int))) rfl rfl (hrun2 _) ?_)
    | (refine wq_copy rfl (.tmp 43) (.tmp 44) 22 22 rfl (v := .slice (some ⟨g2, i * 2, none⟩) (l.length + 1 - i) (C2 - i)) (u := .slice (some ⟨gx, 0, none⟩) 1 vc) (R := fun w' => w'.heap[g2]? = some (.cells (wqPut X (i * 2) [.int .u64 x.f0, .int .u64 x.f1]) 53 (0, 0)) ∧ W1.grownBy w' (some g2)) rfl rfl (wq_run_copy (n := 1) Try.underlying22 li_psz (by simp only [Nat.min_def]; split <;> omega) ((HB0.out.block gx hgxl.out).trans HX.out) rfl rfl HA0.out (by rw [hXs]; omega) (by simp [Value.oneCell'])) ?_; rintro w2 ⟨hb2, hg2⟩; have B2 := Aside0.mk hb2; have GR2 := Aside0.mk hg2; clear hb2 hg2))
  have hne := Aside0.mk (show g ≠ g2 from by have := hgl.out; have := G2.out; omega)
  have c6 := Aside0.mk (show w2.drew.heap[g]? = some (.cells cur 53 (0, 0)) from blk_drew (wq_blk ((HB0.out.block g hgl.out).trans HG.out) GR2.out hne.out))
  have hcp := Aside0.mk (fun (ty : TypeId) => wq_run_copy (P := Try.prog) (W := w2.drew) (t' := 22) (ty := ty) (dCap := C2 - (i + 1)) (sCap := cap - i) Try.underlying22 li_psz (g := g2) (i := (i + 1) * 2) (dLen := l.length - i) (g2 := g) (i2 := i * 2) (sLen := l.length - i) (n := l.length - i) (Nat.min_self _) c6.out HV.out hdl B2.out (by rw [Z1.out]; omega) (encs_one _))
  go_region_law (refine wq_copy_step (R := fun w' => w'.heap[g2]? = some (.cells (wqPut (wqPut X (i * 2) [.int .u64 x.f0, .int .u64 x.f1]) ((i + 1) * 2) (encs (l.drop i))) 53 (0, 0)) ∧ w2.drew.grownBy w' (some g2)) (v := .slice (some ⟨g2, (i + 1) * 2, none⟩) (l.length - i) (C2 - (i + 1))) (u := .slice (some ⟨g, i * 2, none⟩) (l.length - i) (cap - i)) rfl (.tmp 50) (.tmp 53) 22 22 rfl (by simp [Act.eval, Act.put]) (by simp [Act.eval, Act.put]) (hcp.out _) ?_; rintro w3 ⟨hb3, hg3⟩; have B3 := Aside0.mk hb3; have GR3 := Aside0.mk hg3; clear hb3 hg3)
  go_wp2
  go_ret
  refine ⟨.slice (some ⟨g2, 0, none⟩) (l.length + 1) C2, rfl, ⟨encs_len _, .inr ⟨g2, C2, _, ?_, Nat.le_of_eq G2.out.symm, B3.out, ?_, hC4, Z2.out, ?_⟩⟩, ?_⟩
  · rw [insl_len _ _ _ (Nat.le_of_lt hi)]
  · rw [insl_len _ _ _ (Nat.le_of_lt hi)]; exact hC3
  · rw [insl_len _ _ _ (Nat.le_of_lt hi)]; exact Z3.out
  · have q1 := HB0.out.grown GR2.out HB0.out.size (fun k hk => by cases hk; exact Nat.le_of_eq G2.out.symm)
    have q2 := (below_drew1 q1)
    exact q2.grown GR3.out q2.size (fun k hk => by cases hk; exact Nat.le_of_eq G2.out.symm)
/-- one pair is put in at place i -/
theorem li_insert (N : Nat) (v : Value) (l : List S53) (i : Nat) (x : S53) (gx vc : Nat) (tx : TypeId) (W : World) (hown : OW W N v l) (hN : N ≤ W.heap.size) (hlen : l.length ≤ 1000000) (hi : i ≤ l.length)
    (hx : W.heap[gx]? = some (.cells #[.int .u64 x.f0, .int .u64 x.f1] tx (0, 0))) (hne : v.ownBlock ≠ some gx) :
    Calls Try.prog 23 #[v, .int .i64 i, .slice (some ⟨gx, 0, none⟩) 1 vc] W fun e w' => ∃ v', e = .returned v' ∧ OW w' N v' (insl l i x) ∧ Below N W w' := by
  rcases Nat.lt_or_ge i l.length with h | h
  · rcases hown.2 with ⟨_, h0⟩ | ⟨g, cap, cur, rfl, hNg, hg, hnc, hcm, hcs, htk⟩
    · omega
    · rcases Nat.lt_or_ge cap (l.length + 1) with hr | hr
      · refine (li_insC l i x g cap gx vc tx cur W hg hcm hcs htk hlen hx h hnc hr).mono ?_
        rintro e w' ⟨v', h1, h2, h3⟩
        refine ⟨v', h1, ⟨h2.1, ?_⟩, h3.mono hN⟩
        rcases h2.2 with q | ⟨g', c', u', q1, q2, q3⟩
        · exact .inl q
        · exact .inr ⟨g', c', u', q1, Nat.le_trans hN q2, q3⟩
      · refine (li_insB N l i x g cap gx vc tx cur W hg hcm hcs htk hlen hx (fun e => hne (by rw [← e]; rfl)) h hr).mono ?_
        rintro e w' ⟨cur', h1, h2, h3, h4, h5⟩
        refine ⟨_, h1, ⟨encs_len _, .inr ⟨g, cap, cur', ?_, hNg, h2, ?_, hcm, h3, ?_⟩⟩, ?_⟩
        · rw [insl_len _ _ _ hi]
        · rw [insl_len _ _ _ hi]; exact hr
        · rw [insl_len _ _ _ hi]; exact h4
        · exact h5 N hNg hN
  · have : i = l.length := by omega
    subst this
    exact li_insA N v l x gx vc tx W hown hN hlen hx

section
variable {P : Program}
theorem wq_setCells (g : Nat) (t : TypeId) : ∀ (vs : List Value) (k : Nat) (W : World) (cs : Array Value), W.heap[g]? = some (.cells cs t (0, 0)) → (W.setCells g k vs).heap[g]? = some (.cells (wqPut cs k vs) t (0, 0)) ∧ W.grownBy (W.setCells g k vs) (some g)
  | [], k, W, cs, h => ⟨h, wq_grown_self W g⟩
  | v :: r, k, W, cs, h => by
    obtain ⟨h1, h2⟩ := wq_setCells g t r (k + 1) (W.setCell ⟨g, k, none⟩ v) (cs.setIfInBounds k v) (heap_setCell_same W g k cs t v h)
    exact ⟨h1, wq_grown_trans (wq_grown_set (wq_grown_self W g) v) h2⟩
/-- append where there is room, at whole blocks -/
theorem wq_run_appr {W : World} {t ty e : TypeId} {k : Nat} (ht : P.underlying t = some (.slice e)) (hi : (P.info? e).map (·.size) = some k) {g sLen sCap g2 i2 m c : Nat} {t1 t2 : TypeId} {cs cs2 : Array Value} {vs : List Value}
    (hb2 : W.heap[g2]? = some (.cells cs2 t2 (0, 0))) (hv : (cs2.toList.drop i2).take (m * k) = vs) (hl : vs.length = m * k) (hb : W.heap[g]? = some (.cells cs t1 (0, 0))) (hroom : sLen + m ≤ sCap) (hsz : (sLen + m) * k ≤ cs.size) (h1 : ∀ v ∈ vs, v.oneCell' = true) :
    ∃ w', (Builtin.append_ #[t, t] ty #[.slice (some ⟨g, 0, none⟩) sLen sCap, .slice (some ⟨g2, i2, none⟩) m c]).run P W = .ok (.slice (some ⟨g, 0, none⟩) (sLen + m) sCap) w' ∧ w'.heap[g]? = some (.cells (wqPut cs (sLen * k) vs) t1 (0, 0)) ∧ W.grownBy w' (some g) := by
  obtain ⟨i0, hi0, hi1⟩ := Option.map_eq_some_iff.1 hi
  have hi1 : i0.size = k := hi1
  subst hi1
  obtain ⟨e1, e2⟩ := wq_setCells g t1 vs (sLen * i0.size) W cs hb
  rw [Nat.add_mul] at hsz
  refine ⟨_, run_append_room_cells (P := P) W t ty e i0 ht hi0 g 0 sLen sCap ⟨g2, i2, none⟩ m c vs hl (fun j u hj => ?_) h1 hroom (fun j hj => ?_) (fun j hj => ?_), ?_, ?_⟩
  · rw [wq_add, blk_cell hb2, ← hj, ← hv]
    have hj : j < vs.length := (List.getElem?_eq_some_iff.mp hj).1
    rw [List.getElem?_take, if_pos (by omega), List.getElem?_drop, Array.getElem?_toList]
  · rw [blk_cell hb, Array.getElem?_eq_getElem (by omega)]; rfl
  · exact blk_frozen hb _
  · rw [Nat.zero_add]; exact e1
  · rw [Nat.zero_add]; exact e2
theorem wq_run_clear {W : World} {t ty e : TypeId} {k : Nat} {i0 : TypeInfo} {z : Value} (ht : P.underlying t = some (.slice e)) (hi : P.info? e = some i0) (hz : i0.zero = some z) (hk : z.cells.size = k) {g i n c : Nat} {t1 : TypeId} {cs : Array Value}
    (hb : W.heap[g]? = some (.cells cs t1 (0, 0))) (hsz : i + (n + 1) * k ≤ cs.size) (h1 : ∀ v ∈ (Builtin.zeroCells z.cells (n + 1)).toList, v.oneCell' = true) :
    ∃ w', (Builtin.clear_ #[t] ty #[.slice (some ⟨g, i, none⟩) (n + 1) c]).run P W = .ok (.tuple #[]) w' ∧ w'.heap[g]? = some (.cells (wqPut cs i (Builtin.zeroCells z.cells (n + 1)).toList) t1 (0, 0)) ∧ W.grownBy w' (some g) := by
  obtain ⟨w', e1, e2, e3⟩ := wq_stores (P := P) g i t1 (Builtin.zeroCells z.cells (n + 1)).toList 0 W cs hb (by rw [Array.length_toList, size_zeroCells, hk]; omega) h1
  rw [Nat.add_zero] at e2
  refine ⟨w', ?_, e2, e3⟩
  simp [Builtin.clear_, Sem.run_bind, run_underlying ht, zeroValue, typeInfo, hi, hz, e1]
theorem wq_call1 {ops : Array Oper} {rest : List Oper} {o : Oper} {a : Act} {Q : Exit → Act → World → Prop} {W : World} (hgd : o.guard = none) (d : Operand) (t : TypeId)
    (ho : o.op = .call { callee := .builtin .clear, args := #[d], argTypes := #[t] }) {v v' : Value} (hd : a.eval d = v) {R : World → Prop}
    (hr : ∃ w', (Builtin.clear_ #[t] o.type #[v]).run P W = .ok v' w' ∧ R w') (h : ∀ w', R w' → wpList P ops Q rest (a.put o.dst v') w') : wpList P ops Q (o :: rest) a W := by
  obtain ⟨w', hr, hR⟩ := hr
  refine wpList_plain hgd fun K hK => ?_
  unfold Oper.wp execOp
  simp only [ho, resolve, invoke, builtin, Sem.run_bind, Sem.run_pure, Result.andThen_ok, List.map_toArray, List.map_cons, List.map_nil, hd, hr]
  exact hK _ _ (h w' hR)
theorem wq_app_step {ops : Array Oper} {o : Oper} {a : Act} {w : World} {K : Act → World → Prop} {Q : Exit → Act → World → Prop} {E : Prop}
    (hg : o.guard = none) (d x : Operand) (dT sT : TypeId) (hop : o.op = Op.call { callee := Callee.builtin Builtin.append, args := #[d, x], argTypes := #[dT, sT] })
    {v u v' : Value} (hd : a.eval d = v) (hx : a.eval x = u) {R : World → Prop} (hr : ∃ w', (Builtin.append_ #[dT, sT] o.type #[v, u]).run P w = .ok v' w' ∧ R w') (hK : ∀ w', R w' → K (a.put o.dst v') w') :
    if Region.wanted o (yielded ops a.tmps) = true then Oper.wp P o a w K Q else E := by
  obtain ⟨w', hr, hR⟩ := hr
  have hw : Region.wanted o (yielded ops a.tmps) = true := by simp [Region.wanted, hg]
  rw [if_pos hw]
  unfold Oper.wp
  simp [execOp, hop, resolve, invoke, builtin, hd, hx, hr, Result.andThen]
  exact hK _ hR
end
def dell (l : List S53) (i : Nat) : List S53 := l.take i ++ l.drop (i + 1)
theorem dell_len (l : List S53) (i : Nat) (h : i < l.length) : (dell l i).length = l.length - 1 := by
  unfold dell
  rw [List.length_append, List.length_take, List.length_drop]
  omega
theorem encs_dell (cs : Array Value) (l : List S53) (i cap : Nat) (zs : List Value) (hz : zs.length = 2) (h1 : cs.size = cap * 2) (h2 : l.length ≤ cap) (h3 : cs.toList.take (l.length * 2) = encs l) (hi : i < l.length) :
    (wqPut cs (i * 2) (encs (l.drop (i + 1)))).size = cap * 2 ∧ (wqPut (wqPut cs (i * 2) (encs (l.drop (i + 1)))) ((l.length - 1) * 2) zs).size = cap * 2 ∧
    (wqPut (wqPut cs (i * 2) (encs (l.drop (i + 1)))) ((l.length - 1) * 2) zs).toList.take ((l.length - 1) * 2) = encs (dell l i) := by
  have hd : (encs (l.drop (i + 1))).length = (l.length - (i + 1)) * 2 := by rw [encs_len, List.length_drop]
  have e1 := wqPut_list (encs (l.drop (i + 1))) cs (i * 2) (by omega)
  have s1 : (wqPut cs (i * 2) (encs (l.drop (i + 1)))).size = cap * 2 := by
    rw [← Array.length_toList, e1]
    simp only [List.length_append, List.length_take, List.length_drop, Array.length_toList, hd]
    omega
  have e2 := wqPut_list zs (wqPut cs (i * 2) (encs (l.drop (i + 1)))) ((l.length - 1) * 2) (by rw [s1]; omega)
  refine ⟨s1, ?_, ?_⟩
  · rw [← Array.length_toList, e2]
    simp only [List.length_append, List.length_take, List.length_drop, Array.length_toList, s1]
    omega
  · have a1 : cs.toList.take (i * 2) = encs (l.take i) := by
      rw [← encs_take, ← h3, List.take_take]
      congr 1
      omega
    have t1 : (wqPut cs (i * 2) (encs (l.drop (i + 1)))).toList.length = cap * 2 := by rw [Array.length_toList]; exact s1
    rw [e2, List.append_assoc, List.take_left' (by rw [List.length_take, t1]; omega), e1, a1, List.take_left' (by rw [List.length_append, hd, encs_len, List.length_take]; omega)]
    unfold dell
    rw [encs_app]
set_option maxHeartbeats 8000000 in
set_option maxRecDepth 100000 in
theorem li_delB (l : List S53) (i : Nat) (g cap : Nat) (cur : Array Value) (W : World) (hg : W.heap[g]? = some (.cells cur 53 (0, 0))) (hcm : cap ≤ maxLen) (hcs : cur.size = cap * 2) (htk : cur.toList.take (l.length * 2) = encs l) (hlen : l.length ≤ 1000000)
    (hi : i + 1 < l.length) (hnc : l.length ≤ cap) :
    Calls Try.prog 24 #[.slice (some ⟨g, 0, none⟩) l.length cap, .int .i64 i, .int .i64 ((i : Int) + 1)] W fun e w' => ∃ cur', e = .returned (.slice (some ⟨g, 0, none⟩) (l.length - 1) cap) ∧ w'.heap[g]? = some (.cells cur' 53 (0, 0)) ∧ cur'.size = cap * 2 ∧ cur'.toList.take ((l.length - 1) * 2) = encs (dell l i) ∧ (∀ M, M ≤ g → M ≤ W.heap.size → Below M W w') := by
  have HG := Aside0.mk hg
  obtain ⟨i0, hp0, hp1, hp2, hp3⟩ := li_pinfo
  have hz2 : ¬ ((i : Int) = (i : Int) + 1) := by omega
  have b1 : (0 : Int) ≤ (i : Int) := by omega
  have b2 : (i : Int) ≤ (l.length : Int) := by omega
  have b4 : (0 : Int) ≤ (i : Int) + 1 := by omega
  have b5 : (i : Int) + 1 ≤ (l.length : Int) := by omega
  have b6 : (i : Int) ≤ (i : Int) + 1 := by omega
  have b7 : (i : Int) ≤ (cap : Int) := by omega
  have b8 : (l.length : Int) ≤ (cap : Int) := by omega
  have htn : ((i : Int) + 1).toNat = i + 1 := by omega
  have c1 : ¬ (cap = i + 1) := by omega
  have c2 : ¬ (cap = i) := by omega
  have c3 : ¬ (l.length = i) := by omega
  have c4 : ¬ (l.length = i + 1) := by omega
  have c5 : ¬ (cap = l.length - 1) := by omega
  have hdl : (encs (l.drop (i + 1))).length = (l.length - (i + 1)) * 2 := by rw [encs_len, List.length_drop]
  have hv1 : (cur.toList.drop ((i + 1) * 2)).take ((l.length - (i + 1)) * 2) = encs (l.drop (i + 1)) := by
    rw [← encs_drop, ← htk, List.drop_take]
    congr 1
    omega
  obtain ⟨zs, hzs⟩ : ∃ zs, zs = (Builtin.zeroCells (Value.agg #[.int .u64 0, .int .u64 0]).cells 1).toList := ⟨_, rfl⟩
  have HZ := Aside0.mk hzs
  have HZ1 := Aside0.mk (show ∀ v ∈ zs, v.oneCell' = true from by rw [hzs]; simp [Builtin.zeroCells, Array.range, List.range, List.range.loop, Value.cells, Value.oneCell'])
  obtain ⟨z1, z2, z3⟩ := encs_dell cur l i cap zs (by rw [hzs, Array.length_toList, size_zeroCells]; rfl) hcs hnc htk (by omega)
  clear hzs
  have Z1 := Aside0.mk z1
  have Z2 := Aside0.mk z2
  have Z3 := Aside0.mk z3
  clear z1 z2 z3
  have hn1 : i + (l.length - (i + 1)) = l.length - 1 := by omega
  have hcp := Aside0.mk (fun (ty : TypeId) => by
    have := wq_run_appr (P := Try.prog) (W := W.drew) (ty := ty) (c := cap - (i + 1)) Try.underlying22 li_psz (g := g) (sLen := i) (sCap := cap) (g2 := g) (i2 := (i + 1) * 2) (m := l.length - (i + 1)) HG.out hv1 hdl HG.out (by omega) (by omega) (encs_one _)
    rw [hn1] at this
    exact this)
  go_enter Try.func24, Try.ntmps24
  go_wp2
  go_region_law (refine wq_app_step (R := fun w' => w'.heap[g]? = some (.cells (wqPut cur (i * 2) (encs (l.drop (i + 1)))) 53 (0, 0)) ∧ W.drew.grownBy w' (some g)) (v := .slice (some ⟨g, 0, none⟩) i cap) (u := .slice (some ⟨g, (i + 1) * 2, none⟩) (l.length - (i + 1)) (cap - (i + 1))) rfl (.tmp 22) (.tmp 25) 22 22 rfl (by simp [Act.eval, Act.put]) (by simp [Act.eval, Act.put]) (hcp.out _) ?_; rintro w1 ⟨hb1, hg1⟩; have B1 := Aside0.mk hb1; have G1 := Aside0.mk hg1; clear hb1 hg1)
  have hcl := Aside0.mk (fun (ty : TypeId) => by
    have := wq_run_clear (P := Try.prog) (W := w1) (ty := ty) (c := cap - (l.length - 1)) (n := 0) Try.underlying22 hp0 hp1 (k := 2) rfl (g := g) (i := (l.length - 1) * 2) B1.out (by rw [Z1.out]; omega) (by rw [← HZ.out]; exact HZ1.out)
    rw [show 0 + 1 = l.length - (l.length - 1) from by omega] at this
    exact this)
  go_wp2_with (refine wq_call1 rfl (.tmp 31) 22 rfl (v := .slice (some ⟨g, (l.length - 1) * 2, none⟩) (l.length - (l.length - 1)) (cap - (l.length - 1))) (R := fun w' => w'.heap[g]? = some (.cells (wqPut (wqPut cur (i * 2) (encs (l.drop (i + 1)))) ((l.length - 1) * 2) (Builtin.zeroCells (Value.agg #[.int .u64 0, .int .u64 0]).cells (l.length - (l.length - 1))).toList) 53 (0, 0)) ∧ w1.grownBy w' (some g)) rfl (hcl.out _) ?_; rintro w2 ⟨hb2, hg2⟩; have B2 := Aside0.mk hb2; have G2 := Aside0.mk hg2; clear hb2 hg2)
  go_ret
  have hB2 := B2.out
  rw [show l.length - (l.length - 1) = 1 from by omega, ← HZ.out] at hB2
  refine ⟨_, rfl, hB2, Z2.out, Z3.out, fun M h1 h2 => ?_⟩
  have q1 := (below_drew1 (Below.refl M W)).grown G1.out h2 (fun k hk => by cases hk; exact h1)
  exact q1.grown G2.out (Nat.le_trans h2 q1.size) (fun k hk => by cases hk; exact h1)
set_option maxHeartbeats 8000000 in
set_option maxRecDepth 100000 in
theorem li_delA (l : List S53) (i : Nat) (g cap : Nat) (cur : Array Value) (W : World) (hg : W.heap[g]? = some (.cells cur 53 (0, 0))) (hcm : cap ≤ maxLen) (hcs : cur.size = cap * 2) (htk : cur.toList.take (l.length * 2) = encs l) (hlen : l.length ≤ 1000000)
    (hi : i + 1 = l.length) (hnc : l.length ≤ cap) :
    Calls Try.prog 24 #[.slice (some ⟨g, 0, none⟩) l.length cap, .int .i64 i, .int .i64 ((i : Int) + 1)] W fun e w' => ∃ cur', e = .returned (.slice (some ⟨g, 0, none⟩) (l.length - 1) cap) ∧ w'.heap[g]? = some (.cells cur' 53 (0, 0)) ∧ cur'.size = cap * 2 ∧ cur'.toList.take ((l.length - 1) * 2) = encs (dell l i) ∧ (∀ M, M ≤ g → M ≤ W.heap.size → Below M W w') := by
  have HG := Aside0.mk hg
  obtain ⟨i0, hp0, hp1, hp2, hp3⟩ := li_pinfo
  have hz2 : ¬ ((i : Int) = (i : Int) + 1) := by omega
  have b1 : (0 : Int) ≤ (i : Int) := by omega
  have b2 : (i : Int) ≤ (l.length : Int) := by omega
  have b4 : (0 : Int) ≤ (i : Int) + 1 := by omega
  have b5 : (i : Int) + 1 ≤ (l.length : Int) := by omega
  have b6 : (i : Int) ≤ (i : Int) + 1 := by omega
  have b7 : (i : Int) ≤ (cap : Int) := by omega
  have b8 : (l.length : Int) ≤ (cap : Int) := by omega
  have htn : ((i : Int) + 1).toNat = i + 1 := by omega
  have c2 : ¬ (cap = i) := by omega
  have c3 : ¬ (l.length = i) := by omega
  have c5 : ¬ (cap = l.length - 1) := by omega
  have hdl : (encs (l.drop (i + 1))).length = (l.length - (i + 1)) * 2 := by rw [encs_len, List.length_drop]
  have hv1 : (cur.toList.drop ((i + 1) * 2)).take ((l.length - (i + 1)) * 2) = encs (l.drop (i + 1)) := by
    rw [← encs_drop, ← htk, List.drop_take]
    congr 1
    omega
  obtain ⟨zs, hzs⟩ : ∃ zs, zs = (Builtin.zeroCells (Value.agg #[.int .u64 0, .int .u64 0]).cells 1).toList := ⟨_, rfl⟩
  have HZ := Aside0.mk hzs
  have HZ1 := Aside0.mk (show ∀ v ∈ zs, v.oneCell' = true from by rw [hzs]; simp [Builtin.zeroCells, Array.range, List.range, List.range.loop, Value.cells, Value.oneCell'])
  obtain ⟨z1, z2, z3⟩ := encs_dell cur l i cap zs (by rw [hzs, Array.length_toList, size_zeroCells]; rfl) hcs hnc htk (by omega)
  clear hzs
  have Z1 := Aside0.mk z1
  have Z2 := Aside0.mk z2
  have Z3 := Aside0.mk z3
  clear z1 z2 z3
  have hv0 : ∀ q, (cur.toList.drop q).take ((l.length - (i + 1)) * 2) = encs (l.drop (i + 1)) := fun q => by
    have e1 : l.drop (i + 1) = [] := List.drop_of_length_le (by omega)
    rw [e1, show l.length - (i + 1) = 0 from by omega]
    simp [encs_nil]
  have hn1 : i + (l.length - (i + 1)) = l.length - 1 := by omega
  have HI := Aside0.mk hi
  clear hi
  by_cases c1 : cap = i + 1
  · replace c1 := eq_true c1
    have hcp := Aside0.mk (fun (ty : TypeId) => by
      have := wq_run_appr (P := Try.prog) (W := W.drew) (ty := ty) (c := cap - (i + 1)) Try.underlying22 li_psz (g := g) (sLen := i) (sCap := cap) (g2 := g) (i2 := 0) (m := l.length - (i + 1)) HG.out (hv0 0) hdl HG.out (by omega) (by omega) (encs_one _)
      rw [hn1] at this
      exact this)
    go_enter Try.func24, Try.ntmps24
    go_wp2
    go_region_law (refine wq_app_step (R := fun w' => w'.heap[g]? = some (.cells (wqPut cur (i * 2) (encs (l.drop (i + 1)))) 53 (0, 0)) ∧ W.drew.grownBy w' (some g)) (v := .slice (some ⟨g, 0, none⟩) i cap) (u := .slice (some ⟨g, 0, none⟩) (l.length - (i + 1)) (cap - (i + 1))) rfl (.tmp 22) (.tmp 25) 22 22 rfl (by simp [Act.eval, Act.put]) (by simp [Act.eval, Act.put]) (hcp.out _) ?_; rintro w1 ⟨hb1, hg1⟩; have B1 := Aside0.mk hb1; have G1 := Aside0.mk hg1; clear hb1 hg1)
    have hcl := Aside0.mk (fun (ty : TypeId) => by
      have := wq_run_clear (P := Try.prog) (W := w1) (ty := ty) (c := cap - (l.length - 1)) (n := 0) Try.underlying22 hp0 hp1 (k := 2) rfl (g := g) (i := (l.length - 1) * 2) B1.out (by rw [Z1.out]; omega) (by rw [← HZ.out]; exact HZ1.out)
      rw [show 0 + 1 = l.length - (l.length - 1) from by omega] at this
      exact this)
    go_wp2_with (refine wq_call1 rfl (.tmp 31) 22 rfl (v := .slice (some ⟨g, (l.length - 1) * 2, none⟩) (l.length - (l.length - 1)) (cap - (l.length - 1))) (R := fun w' => w'.heap[g]? = some (.cells (wqPut (wqPut cur (i * 2) (encs (l.drop (i + 1)))) ((l.length - 1) * 2) (Builtin.zeroCells (Value.agg #[.int .u64 0, .int .u64 0]).cells (l.length - (l.length - 1))).toList) 53 (0, 0)) ∧ w1.grownBy w' (some g)) rfl (hcl.out _) ?_; rintro w2 ⟨hb2, hg2⟩; have B2 := Aside0.mk hb2; have G2 := Aside0.mk hg2; clear hb2 hg2)
    go_ret
    have hB2 := B2.out
    rw [show l.length - (l.length - 1) = 1 from by omega, ← HZ.out] at hB2
    refine ⟨_, rfl, hB2, Z2.out, Z3.out, fun M h1 h2 => ?_⟩
    have q1 := (below_drew1 (Below.refl M W)).grown G1.out h2 (fun k hk => by cases hk; exact h1)
    exact q1.grown G2.out (Nat.le_trans h2 q1.size) (fun k hk => by cases hk; exact h1)
  · skip
    have hcp := Aside0.mk (fun (ty : TypeId) => by
      have := wq_run_appr (P := Try.prog) (W := W.drew) (ty := ty) (c := cap - (i + 1)) Try.underlying22 li_psz (g := g) (sLen := i) (sCap := cap) (g2 := g) (i2 := (i + 1) * 2) (m := l.length - (i + 1)) HG.out hv1 hdl HG.out (by omega) (by omega) (encs_one _)
      rw [hn1] at this
      exact this)
    go_enter Try.func24, Try.ntmps24
    go_wp2
    go_region_law (refine wq_app_step (R := fun w' => w'.heap[g]? = some (.cells (wqPut cur (i * 2) (encs (l.drop (i + 1)))) 53 (0, 0)) ∧ W.drew.grownBy w' (some g)) (v := .slice (some ⟨g, 0, none⟩) i cap) (u := .slice (some ⟨g, (i + 1) * 2, none⟩) (l.length - (i + 1)) (cap - (i + 1))) rfl (.tmp 22) (.tmp 25) 22 22 rfl (by simp [Act.eval, Act.put]) (by simp [Act.eval, Act.put]) (hcp.out _) ?_; rintro w1 ⟨hb1, hg1⟩; have B1 := Aside0.mk hb1; have G1 := Aside0.mk hg1; clear hb1 hg1)
    have hcl := Aside0.mk (fun (ty : TypeId) => by
      have := wq_run_clear (P := Try.prog) (W := w1) (ty := ty) (c := cap - (l.length - 1)) (n := 0) Try.underlying22 hp0 hp1 (k := 2) rfl (g := g) (i := (l.length - 1) * 2) B1.out (by rw [Z1.out]; omega) (by rw [← HZ.out]; exact HZ1.out)
      rw [show 0 + 1 = l.length - (l.length - 1) from by omega] at this
      exact this)
    go_wp2_with (refine wq_call1 rfl (.tmp 31) 22 rfl (v := .slice (some ⟨g, (l.length - 1) * 2, none⟩) (l.length - (l.length - 1)) (cap - (l.length - 1))) (R := fun w' => w'.heap[g]? = some (.cells (wqPut (wqPut cur (i * 2) (encs (l.drop (i + 1)))) ((l.length - 1) * 2) (Builtin.zeroCells (Value.agg #[.int .u64 0, .int .u64 0]).cells (l.length - (l.length - 1))).toList) 53 (0, 0)) ∧ w1.grownBy w' (some g)) rfl (hcl.out _) ?_; rintro w2 ⟨hb2, hg2⟩; have B2 := Aside0.mk hb2; have G2 := Aside0.mk hg2; clear hb2 hg2)
    go_ret
    have hB2 := B2.out
    rw [show l.length - (l.length - 1) = 1 from by omega, ← HZ.out] at hB2
    refine ⟨_, rfl, hB2, Z2.out, Z3.out, fun M h1 h2 => ?_⟩
    have q1 := (below_drew1 (Below.refl M W)).grown G1.out h2 (fun k hk => by cases hk; exact h1)
    exact q1.grown G2.out (Nat.le_trans h2 q1.size) (fun k hk => by cases hk; exact h1)
/-- one pair is taken out at place i -/
theorem li_delete (N : Nat) (v : Value) (l : List S53) (i : Nat) (W : World) (hown : OW W N v l) (hN : N ≤ W.heap.size) (hlen : l.length ≤ 1000000) (hi : i < l.length) :
    Calls Try.prog 24 #[v, .int .i64 i, .int .i64 ((i : Int) + 1)] W fun e w' => ∃ v', e = .returned v' ∧ OW w' N v' (dell l i) ∧ Below N W w' := by
  rcases hown.2 with ⟨_, h0⟩ | ⟨g, cap, cur, rfl, hNg, hg, hnc, hcm, hcs, htk⟩
  · omega
  · have key : Calls Try.prog 24 #[.slice (some ⟨g, 0, none⟩) l.length cap, .int .i64 i, .int .i64 ((i : Int) + 1)] W fun e w' => ∃ cur', e = .returned (.slice (some ⟨g, 0, none⟩) (l.length - 1) cap) ∧ w'.heap[g]? = some (.cells cur' 53 (0, 0)) ∧ cur'.size = cap * 2 ∧ cur'.toList.take ((l.length - 1) * 2) = encs (dell l i) ∧ (∀ M, M ≤ g → M ≤ W.heap.size → Below M W w') := by
      rcases Nat.lt_or_ge (i + 1) l.length with h | h
      · exact li_delB l i g cap cur W hg hcm hcs htk hlen h hnc
      · exact li_delA l i g cap cur W hg hcm hcs htk hlen (by omega) hnc
    refine key.mono ?_
    rintro e w' ⟨cur', h1, h2, h3, h4, h5⟩
    refine ⟨_, h1, ⟨encs_len _, .inr ⟨g, cap, cur', ?_, hNg, h2, ?_, hcm, h3, ?_⟩⟩, h5 N hNg hN⟩
    · rw [dell_len _ _ hi]
    · rw [dell_len _ _ hi]; omega
    · rw [dell_len _ _ hi]; exact h4

theorem OW.grown {w w1 : World} {N g : Nat} {v : Value} {l : List S53} (h : OW w N v l) (hg : w.grownBy w1 (some g)) (hN : g < N) : OW w1 N v l := by
  refine ⟨h.1, ?_⟩
  rcases h.2 with h1 | ⟨g', cap, cur, h1, h2, h3, h4⟩
  · exact .inl h1
  · exact .inr ⟨g', cap, cur, h1, h2, wq_blk h3 hg (by omega), h4⟩
theorem OW.mono {w : World} {N M : Nat} {v : Value} {l : List S53} (h : OW w N v l) (hM : M ≤ N) : OW w M v l := by
  refine ⟨h.1, ?_⟩
  rcases h.2 with h1 | ⟨g', cap, cur, h1, h2, h3, h4⟩
  · exact .inl h1
  · exact .inr ⟨g', cap, cur, h1, Nat.le_trans hM h2, h3, h4⟩
theorem OW.ne {w : World} {N g : Nat} {v : Value} {l : List S53} (h : OW w N v l) (hg : w.heap.size ≤ g) : v.ownBlock ≠ some g := fun e => by
  have := (World.ownsRow.lt h g e).2
  omega
theorem hs_drew {N : Nat} {w : World} (h : N ≤ w.heap.size) : N ≤ w.drew.heap.size := h
theorem li_bs (A0 : Option Addr) (c0 : Nat) (l : List S53) (k : Int) (hl : l.length ≤ 1000000) (hs : Rising l) (W : World) (hr0 : Kd.C k53 W A0 l.length l) (i : Nat) (b : Bool) (hi : kix l k = i) (hb : kthere l k = b) :
    Calls Try.prog 19 #[.slice A0 l.length c0, .int .u64 k, .func (.func 20) #[] #[]] W fun e w' => e = .returned (.tuple #[.int .i64 (i : Int), .bool b]) ∧ Below W.heap.size W w' := by
  subst hi
  subst hb
  exact li_bsearch A0 c0 l k hl hs W hr0
theorem li_cl (A0 : Option Addr) (c0 : Nat) (l : List S53) (W : World) (hr0 : Kd.C k53 W A0 l.length l) (hlen : l.length ≤ 1000000) :
    Calls Try.prog 22 #[.slice A0 l.length c0] W fun e w' => ∃ v, e = .returned v ∧ OW w' W.heap.size v l ∧ Below W.heap.size W w' := by
  cases A0 with
  | some ad => exact li_clone ad c0 l W hr0 hlen
  | none =>
    have hz : l = [] := by
      rcases Nat.eq_zero_or_pos l.length with h0 | h0
      · exact List.eq_nil_of_length_eq_zero h0
      · obtain ⟨ad, e, _⟩ := (show ReadsRow (k53.K W) 2 W none l.length l from hr0).2.2 h0
        cases e
    subst hz
    exact li_clone0 c0 W
theorem res_tc {P : Program} {fn : Func} {p u : Tmp} {ty : TypeId} (h : fn.results = #[.tmp u, .cell p ty]) (tmps : Array Value) (w : World) (g : Nat) (t0 : TypeId) (cs : Array Value) (fr : Nat × Nat) (d : TypeDesc)
    (hp : tmps.getD p undef = .pointer (some ⟨g, 0, none⟩)) (hg : w.heap[g]? = some (.cells cs t0 fr))
    (hu : P.underlying ty = some d) (hd : (match d with | .struct _ | .array _ _ => true | _ => false) = true) (hi : (P.info? ty).map (·.size) = some cs.size) :
    (results fn tmps).run P w = .ok (.tuple #[tmps.getD u undef, .agg cs]) w := by
  have hp' : tmps[p]?.getD undef = .pointer (some ⟨g, 0, none⟩) := by simpa using hp
  simp [results, h, hp', asAddr, run_loadVar_row w g t0 ty cs fr d hg hu hd hi]
set_option maxHeartbeats 8000000 in
set_option maxRecDepth 100000 in
theorem li_apply_ins (A0 : Option Addr) (c0 : Nat) (l : List S53) (kd k v q : Int) (hl : l.length ≤ 1000000) (hs : Rising l) (W : World) (hr0 : Kd.C k53 W A0 l.length l) (i : Nat) (hi : kix l k = i) (hil : i ≤ l.length) (hk1 : kd = 1) (hth : kthere l k = false) :
    Calls Try.prog 9 #[.slice A0 l.length c0, .agg #[.int .i64 kd, .int .u64 k, .int .u64 v, .int .i64 q]] W fun e w' => ∃ v', e = .returned (.tuple #[v', .agg #[.int .i64 0, .bool true, .int .u64 0, .slice none 0 0]]) ∧ OW w' W.heap.size v' (insl l i ⟨k, v⟩) ∧ Below W.heap.size W w' := by
  have HR0 := Aside0.mk hr0
  have HL := Aside0.mk hl
  have HSR := Aside0.mk hs
  have HI := Aside0.mk hi
  have HIL := Aside0.mk hil
  have HTH := Aside0.mk hth
  have HB := Aside0.mk (Below.refl W.heap.size W)
  subst hk1
  clear hr0 hl hs hi hil hth
  go_enter Try.func9, Try.ntmps9
  go_wp2_with (first | ((with_reducible refine gate_dst (N := 3) rfl ?_); refine box_event ?hg1 (N := 3) ?hd1 (cs := #[.int .i64 1, .int .u64 k, .int .u64 v, .int .i64 q]) (t := 25) ?hr1 ?_; (case hd1 => rfl); (case hg1 => rfl); (case hr1 => first | (go_simp; done) | (go_simp; rfl)); intro g1 hg w1_ hbox hbk; have HGB1 := Aside0.mk (show W.heap.size ≤ g1 from by rw [hg]; have := HB.out.size; omega); have n_HB := Aside0.mk (below_step HB.out hbk); clear HB; have HB := n_HB; clear n_HB; have B1 := Aside0.mk hbox; clear hbk hbox hg) | ((with_reducible refine gate_dst (N := 5) rfl ?_); refine box_event ?hg2 (N := 5) ?hd2 (cs := #[.int .i64 0, .bool false, .int .u64 0, .slice none 0 0]) (t := 30) ?hr2 ?_; (case hd2 => rfl); (case hg2 => rfl); (case hr2 => first | (go_simp; done) | (go_simp; rfl)); intro g2 hg w2_ hbox hbk; have HGB2 := Aside0.mk (show g1 ≠ g2 ∧ W.heap.size ≤ g2 from by rw [hg]; have := blk_lt B1.out; have := HB.out.size; omega); have n_HB := Aside0.mk (below_step HB.out hbk); have n_B1 := Aside0.mk (blk_below B1.out hbk); clear HB B1; have HB := n_HB; have B1 := n_B1; clear n_HB n_B1; have B2 := Aside0.mk hbox; clear hbk hbox hg) | ((with_reducible refine gate_dst (N := 12) rfl ?_); refine wq_load1 (ty := 23) (p := .tmp 11) (g := g1) (i := 1) (v := ?v3) ?hgd3 ?ho3 ?hp3 Try.underlying23 ?hd3 B1.out ?hv3 ?_; (case hd3 => rfl); (case hgd3 => rfl); (case ho3 => rfl); (case hp3 => rfl); (case hv3 => rfl)) | (go_at_call 19; (with_reducible refine (li_bs A0 c0 l k HL.out HSR.out _ (Kd.C_below HR0.out HB.out) i false HI.out HTH.out).mono ?_); rintro e u3_ ⟨rfl, hbk⟩; have n_HB := Aside0.mk (below_step HB.out hbk); have n_B1 := Aside0.mk (blk_below B1.out hbk); have n_B2 := Aside0.mk (blk_below B2.out hbk); clear HB B1 B2; have HB := n_HB; have B1 := n_B1; have B2 := n_B2; clear n_HB n_B1 n_B2; clear hbk) | (go_at_call 22; (with_reducible refine (li_cl A0 c0 l _ (Kd.C_below HR0.out HB.out) HL.out).mono ?_); rintro e u4_ ⟨v0, rfl, ho, hbk⟩; have hNN : ∃ N, g1 < N ∧ g2 < N ∧ W.heap.size ≤ N ∧ N ≤ u4_.heap.size ∧ OW u4_ N v0 l := ⟨_, blk_lt B1.out, blk_lt B2.out, HB.out.size, hbk.size, ho⟩; have n_HB := Aside0.mk (below_step HB.out hbk); have n_B1 := Aside0.mk (blk_below B1.out hbk); have n_B2 := Aside0.mk (blk_below B2.out hbk); clear HB B1 B2; have HB := n_HB; have B1 := n_B1; have B2 := n_B2; clear n_HB n_B1 n_B2; clear hbk ho; obtain ⟨N, n1, n2, n3, n4, n5⟩ := hNN; have HN := Aside0.mk (And.intro n1 (And.intro n2 n3)); have HS := Aside0.mk n4; have HO := Aside0.mk n5; clear n1 n2 n3 n4 n5) | ((with_reducible refine gate_dst (N := 20) rfl ?_); refine wq_load1 (ty := 3) (p := .tmp 19) (g := g1) (i := 0) (v := ?v6) ?hgd6 ?ho6 ?hp6 Try.underlying3 ?hd6 B1.out ?hv6 ?_; (case hd6 => rfl); (case hgd6 => rfl); (case ho6 => rfl); (case hp6 => rfl); (case hv6 => rfl)) | ((with_reducible refine gate_dst (N := 29) rfl ?_); refine wq_load1 (ty := 23) (p := .tmp 28) (g := g1) (i := 1) (v := ?v7) ?hgd7 ?ho7 ?hp7 Try.underlying23 ?hd7 B1.out ?hv7 ?_; (case hd7 => rfl); (case hgd7 => rfl); (case ho7 => rfl); (case hp7 => rfl); (case hv7 => rfl)) | ((with_reducible refine gate_dst (N := 31) rfl ?_); refine wq_load1 (ty := 23) (p := .tmp 30) (g := g1) (i := 2) (v := ?v8) ?hgd8 ?ho8 ?hp8 Try.underlying23 ?hd8 B1.out ?hv8 ?_; (case hd8 => rfl); (case hgd8 => rfl); (case ho8 => rfl); (case hp8 => rfl); (case hv8 => rfl)) | (go_at_call 23; (with_reducible refine (li_insert N v0 l i ⟨k, v⟩ _ 1 _ _ (OW.below HO.out (below_alloc (Below.refl _ _) _)) (Nat.le_trans HS.out (below_alloc (Below.refl u4_.heap.size u4_) _).size) HL.out HIL.out (blk_new _ _) (OW.ne HO.out (Nat.le_refl _))).mono ?_); rintro e u5_ ⟨v1, rfl, ho, hbk⟩; have n_HO := Aside0.mk ho; have n_HS := Aside0.mk (Nat.le_trans (Nat.le_trans HS.out (below_alloc (Below.refl _ _) _).size) hbk.size); have n_HB := Aside0.mk (Below.trans (HB.out.trans (Below.mono (below_alloc (Below.refl _ _) _) HB.out.size)) (hbk.mono HN.out.2.2)); have n_B1 := Aside0.mk ((hbk.block g1 HN.out.1).trans (blk_below B1.out (below_alloc (Below.refl _ _) _))); have n_B2 := Aside0.mk ((hbk.block g2 HN.out.2.1).trans (blk_below B2.out (below_alloc (Below.refl _ _) _))); clear HB HO HS B1 B2 ho hbk; have HB := n_HB; have HO := n_HO; have HS := n_HS; have B1 := n_B1; have B2 := n_B2; clear n_HB n_HO n_HS n_B1 n_B2) | ((with_reducible refine gate_store (p := 5) rfl ?_); refine wq_store (ty := 30) (p := .tmp 5) (x := .tmp 35) (g := g2) (i := 0) (k := 4) (v := ?v10) (vs := ?vs10) (cs' := ?cs10) ?hgd10 ?hdst10 ?ho10 ?hp10 ?hx10 ?hvc10 ?hi10 ?hk10 ?h110 B2.out ?hsz10 ?hcs10 ?_; (case hi10 => kernel_rfl); (case hgd10 => rfl); (case hdst10 => rfl); (case ho10 => rfl); (case hp10 => rfl); (case hx10 => go_simp; with_reducible rfl); (case hvc10 => simp only [Value.cells]; with_reducible rfl); (case hk10 => rfl); (case h110 => rfl); (case hsz10 => exact Nat.le_of_ble_eq_true rfl); (case hcs10 => simp only [wqPut, List.setIfInBounds_toArray, List.set_cons_succ, List.set_cons_zero, Nat.reduceAdd]; with_reducible rfl); intro w6_ hb hgr; have n_HB := Aside0.mk (HB.out.grown hgr HB.out.size (fun k hk => by cases hk; exact HGB2.out.2)); have n_HO := Aside0.mk (OW.grown HO.out hgr HN.out.2.1); have n_HS := Aside0.mk (Nat.le_trans HS.out hgr.size); have n_B1 := Aside0.mk (wq_blk B1.out hgr HGB2.out.1); have n_B2 := Aside0.mk hb; clear HB HO HS B1 B2 hb hgr; have HB := n_HB; have HO := n_HO; have HS := n_HS; have B1 := n_B1; have B2 := n_B2; clear n_HB n_HO n_HS n_B1 n_B2))
  refine bodyPost_ret (res_tc rfl _ _ _ _ _ _ _ rfl B2.out Try.underlying30 rfl (by kernel_rfl)) rfl ?_
  exact ⟨_, rfl, OW.mono HO.out HN.out.2.2, HB.out⟩
set_option maxHeartbeats 8000000 in
set_option maxRecDepth 100000 in
theorem li_apply_ins0 (A0 : Option Addr) (c0 : Nat) (l : List S53) (kd k v q : Int) (hl : l.length ≤ 1000000) (hs : Rising l) (W : World) (hr0 : Kd.C k53 W A0 l.length l) (i : Nat) (hi : kix l k = i) (hil : i ≤ l.length) (hk1 : kd = 1) (hk2 : ¬ kd = 2) (hk3 : ¬ kd = 3) (hth : kthere l k = true) (hlt : i < l.length) :
    Calls Try.prog 9 #[.slice A0 l.length c0, .agg #[.int .i64 kd, .int .u64 k, .int .u64 v, .int .i64 q]] W fun e w' => ∃ v', e = .returned (.tuple #[v', .agg #[.int .i64 0, .bool false, .int .u64 0, .slice none 0 0]]) ∧ OW w' W.heap.size v' l ∧ Below W.heap.size W w' := by
  have HR0 := Aside0.mk hr0
  have HL := Aside0.mk hl
  have HSR := Aside0.mk hs
  have HI := Aside0.mk hi
  have HIL := Aside0.mk hil
  have HTH := Aside0.mk hth
  have HB := Aside0.mk (Below.refl W.heap.size W)
  subst hk1
  clear hk2 hk3
  have HLT := Aside0.mk hlt
  clear hr0 hl hs hi hil hth hlt
  go_enter Try.func9, Try.ntmps9
  go_wp2_with (first | ((with_reducible refine gate_dst (N := 3) rfl ?_); refine box_event ?hg11 (N := 3) ?hd11 (cs := #[.int .i64 1, .int .u64 k, .int .u64 v, .int .i64 q]) (t := 25) ?hr11 ?_; (case hd11 => rfl); (case hg11 => rfl); (case hr11 => first | (go_simp; done) | (go_simp; rfl)); intro g1 hg w1_ hbox hbk; have HGB1 := Aside0.mk (show W.heap.size ≤ g1 from by rw [hg]; have := HB.out.size; omega); have n_HB := Aside0.mk (below_step HB.out hbk); clear HB; have HB := n_HB; clear n_HB; have B1 := Aside0.mk hbox; clear hbk hbox hg) | ((with_reducible refine gate_dst (N := 5) rfl ?_); refine box_event ?hg12 (N := 5) ?hd12 (cs := #[.int .i64 0, .bool false, .int .u64 0, .slice none 0 0]) (t := 30) ?hr12 ?_; (case hd12 => rfl); (case hg12 => rfl); (case hr12 => first | (go_simp; done) | (go_simp; rfl)); intro g2 hg w2_ hbox hbk; have HGB2 := Aside0.mk (show g1 ≠ g2 ∧ W.heap.size ≤ g2 from by rw [hg]; have := blk_lt B1.out; have := HB.out.size; omega); have n_HB := Aside0.mk (below_step HB.out hbk); have n_B1 := Aside0.mk (blk_below B1.out hbk); clear HB B1; have HB := n_HB; have B1 := n_B1; clear n_HB n_B1; have B2 := Aside0.mk hbox; clear hbk hbox hg) | ((with_reducible refine gate_dst (N := 12) rfl ?_); refine wq_load1 (ty := 23) (p := .tmp 11) (g := g1) (i := 1) (v := ?v13) ?hgd13 ?ho13 ?hp13 Try.underlying23 ?hd13 B1.out ?hv13 ?_; (case hd13 => rfl); (case hgd13 => rfl); (case ho13 => rfl); (case hp13 => rfl); (case hv13 => rfl)) | (go_at_call 19; (with_reducible refine (li_bs A0 c0 l k HL.out HSR.out _ (Kd.C_below HR0.out HB.out) i true HI.out HTH.out).mono ?_); rintro e u3_ ⟨rfl, hbk⟩; have n_HB := Aside0.mk (below_step HB.out hbk); have n_B1 := Aside0.mk (blk_below B1.out hbk); have n_B2 := Aside0.mk (blk_below B2.out hbk); clear HB B1 B2; have HB := n_HB; have B1 := n_B1; have B2 := n_B2; clear n_HB n_B1 n_B2; clear hbk) | (go_at_call 22; (with_reducible refine (li_cl A0 c0 l _ (Kd.C_below HR0.out HB.out) HL.out).mono ?_); rintro e u4_ ⟨v0, rfl, ho, hbk⟩; have hNN : ∃ N, g1 < N ∧ g2 < N ∧ W.heap.size ≤ N ∧ N ≤ u4_.heap.size ∧ OW u4_ N v0 l := ⟨_, blk_lt B1.out, blk_lt B2.out, HB.out.size, hbk.size, ho⟩; have n_HB := Aside0.mk (below_step HB.out hbk); have n_B1 := Aside0.mk (blk_below B1.out hbk); have n_B2 := Aside0.mk (blk_below B2.out hbk); clear HB B1 B2; have HB := n_HB; have B1 := n_B1; have B2 := n_B2; clear n_HB n_B1 n_B2; clear hbk ho; obtain ⟨N, n1, n2, n3, n4, n5⟩ := hNN; have HN := Aside0.mk (And.intro n1 (And.intro n2 n3)); have HS := Aside0.mk n4; have HO := Aside0.mk n5; clear n1 n2 n3 n4 n5) | ((with_reducible refine gate_dst (N := 20) rfl ?_); refine wq_load1 (ty := 3) (p := .tmp 19) (g := g1) (i := 0) (v := ?v16) ?hgd16 ?ho16 ?hp16 Try.underlying3 ?hd16 B1.out ?hv16 ?_; (case hd16 => rfl); (case hgd16 => rfl); (case ho16 => rfl); (case hp16 => rfl); (case hv16 => rfl)) | ((with_reducible refine gate_dst (N := 38) rfl ?_); refine wq_load1 (ty := 3) (p := .tmp 37) (g := g1) (i := 0) (v := ?v17) ?hgd17 ?ho17 ?hp17 Try.underlying3 ?hd17 B1.out ?hv17 ?_; (case hd17 => rfl); (case hgd17 => rfl); (case ho17 => rfl); (case hp17 => rfl); (case hv17 => rfl)) | ((with_reducible refine gate_dst (N := 51) rfl ?_); refine wq_load1 (ty := 3) (p := .tmp 50) (g := g1) (i := 0) (v := ?v18) ?hgd18 ?ho18 ?hp18 Try.underlying3 ?hd18 B1.out ?hv18 ?_; (case hd18 => rfl); (case hgd18 => rfl); (case ho18 => rfl); (case hp18 => rfl); (case hv18 => rfl)) | ((with_reducible refine gate_store (p := 5) rfl ?_); refine wq_store (ty := 30) (p := .tmp 5) (x := .tmp 64) (g := g2) (i := 0) (k := 4) (v := ?v19) (vs := ?vs19) (cs' := ?cs19) ?hgd19 ?hdst19 ?ho19 ?hp19 ?hx19 ?hvc19 ?hi19 ?hk19 ?h119 B2.out ?hsz19 ?hcs19 ?_; (case hi19 => kernel_rfl); (case hgd19 => rfl); (case hdst19 => rfl); (case ho19 => rfl); (case hp19 => rfl); (case hx19 => go_simp; with_reducible rfl); (case hvc19 => simp only [Value.cells]; with_reducible rfl); (case hk19 => rfl); (case h119 => rfl); (case hsz19 => exact Nat.le_of_ble_eq_true rfl); (case hcs19 => simp only [wqPut, List.setIfInBounds_toArray, List.set_cons_succ, List.set_cons_zero, Nat.reduceAdd]; with_reducible rfl); intro w5_ hb hgr; have n_HB := Aside0.mk (HB.out.grown hgr HB.out.size (fun k hk => by cases hk; exact HGB2.out.2)); have n_HO := Aside0.mk (OW.grown HO.out hgr HN.out.2.1); have n_HS := Aside0.mk (Nat.le_trans HS.out hgr.size); have n_B1 := Aside0.mk (wq_blk B1.out hgr HGB2.out.1); have n_B2 := Aside0.mk hb; clear HB HO HS B1 B2 hb hgr; have HB := n_HB; have HO := n_HO; have HS := n_HS; have B1 := n_B1; have B2 := n_B2; clear n_HB n_HO n_HS n_B1 n_B2))
  refine bodyPost_ret (res_tc rfl _ _ _ _ _ _ _ rfl B2.out Try.underlying30 rfl (by kernel_rfl)) rfl ?_
  exact ⟨_, rfl, OW.mono HO.out HN.out.2.2, HB.out⟩
set_option maxHeartbeats 8000000 in
set_option maxRecDepth 100000 in
theorem li_apply_del (A0 : Option Addr) (c0 : Nat) (l : List S53) (kd k v q : Int) (hl : l.length ≤ 1000000) (hs : Rising l) (W : World) (hr0 : Kd.C k53 W A0 l.length l) (i : Nat) (hi : kix l k = i) (hil : i ≤ l.length) (hk1 : ¬ kd = 1) (hk2 : kd = 2) (hth : kthere l k = true) (hlt : i < l.length) :
    Calls Try.prog 9 #[.slice A0 l.length c0, .agg #[.int .i64 kd, .int .u64 k, .int .u64 v, .int .i64 q]] W fun e w' => ∃ v', e = .returned (.tuple #[v', .agg #[.int .i64 0, .bool true, .int .u64 0, .slice none 0 0]]) ∧ OW w' W.heap.size v' (dell l i) ∧ Below W.heap.size W w' := by
  have HR0 := Aside0.mk hr0
  have HL := Aside0.mk hl
  have HSR := Aside0.mk hs
  have HI := Aside0.mk hi
  have HIL := Aside0.mk hil
  have HTH := Aside0.mk hth
  have HB := Aside0.mk (Below.refl W.heap.size W)
  subst hk2
  clear hk1
  have HLT := Aside0.mk hlt
  clear hr0 hl hs hi hil hth hlt
  have hib : (i : Int) ≤ 1000000 := by have := HL.out; have := HIL.out; omega
  have hib0 : (0 : Int) ≤ (i : Int) := by omega
  go_enter Try.func9, Try.ntmps9
  go_wp2_with (first | ((with_reducible refine gate_dst (N := 3) rfl ?_); refine box_event ?hg20 (N := 3) ?hd20 (cs := #[.int .i64 2, .int .u64 k, .int .u64 v, .int .i64 q]) (t := 25) ?hr20 ?_; (case hd20 => rfl); (case hg20 => rfl); (case hr20 => first | (go_simp; done) | (go_simp; rfl)); intro g1 hg w1_ hbox hbk; have HGB1 := Aside0.mk (show W.heap.size ≤ g1 from by rw [hg]; have := HB.out.size; omega); have n_HB := Aside0.mk (below_step HB.out hbk); clear HB; have HB := n_HB; clear n_HB; have B1 := Aside0.mk hbox; clear hbk hbox hg) | ((with_reducible refine gate_dst (N := 5) rfl ?_); refine box_event ?hg21 (N := 5) ?hd21 (cs := #[.int .i64 0, .bool false, .int .u64 0, .slice none 0 0]) (t := 30) ?hr21 ?_; (case hd21 => rfl); (case hg21 => rfl); (case hr21 => first | (go_simp; done) | (go_simp; rfl)); intro g2 hg w2_ hbox hbk; have HGB2 := Aside0.mk (show g1 ≠ g2 ∧ W.heap.size ≤ g2 from by rw [hg]; have := blk_lt B1.out; have := HB.out.size; omega); have n_HB := Aside0.mk (below_step HB.out hbk); have n_B1 := Aside0.mk (blk_below B1.out hbk); clear HB B1; have HB := n_HB; have B1 := n_B1; clear n_HB n_B1; have B2 := Aside0.mk hbox; clear hbk hbox hg) | ((with_reducible refine gate_dst (N := 12) rfl ?_); refine wq_load1 (ty := 23) (p := .tmp 11) (g := g1) (i := 1) (v := ?v22) ?hgd22 ?ho22 ?hp22 Try.underlying23 ?hd22 B1.out ?hv22 ?_; (case hd22 => rfl); (case hgd22 => rfl); (case ho22 => rfl); (case hp22 => rfl); (case hv22 => rfl)) | (go_at_call 19; (with_reducible refine (li_bs A0 c0 l k HL.out HSR.out _ (Kd.C_below HR0.out HB.out) i true HI.out HTH.out).mono ?_); rintro e u3_ ⟨rfl, hbk⟩; have n_HB := Aside0.mk (below_step HB.out hbk); have n_B1 := Aside0.mk (blk_below B1.out hbk); have n_B2 := Aside0.mk (blk_below B2.out hbk); clear HB B1 B2; have HB := n_HB; have B1 := n_B1; have B2 := n_B2; clear n_HB n_B1 n_B2; clear hbk) | (go_at_call 22; (with_reducible refine (li_cl A0 c0 l _ (Kd.C_below HR0.out HB.out) HL.out).mono ?_); rintro e u4_ ⟨v0, rfl, ho, hbk⟩; have hNN : ∃ N, g1 < N ∧ g2 < N ∧ W.heap.size ≤ N ∧ N ≤ u4_.heap.size ∧ OW u4_ N v0 l := ⟨_, blk_lt B1.out, blk_lt B2.out, HB.out.size, hbk.size, ho⟩; have n_HB := Aside0.mk (below_step HB.out hbk); have n_B1 := Aside0.mk (blk_below B1.out hbk); have n_B2 := Aside0.mk (blk_below B2.out hbk); clear HB B1 B2; have HB := n_HB; have B1 := n_B1; have B2 := n_B2; clear n_HB n_B1 n_B2; clear hbk ho; obtain ⟨N, n1, n2, n3, n4, n5⟩ := hNN; have HN := Aside0.mk (And.intro n1 (And.intro n2 n3)); have HS := Aside0.mk n4; have HO := Aside0.mk n5; clear n1 n2 n3 n4 n5) | ((with_reducible refine gate_dst (N := 20) rfl ?_); refine wq_load1 (ty := 3) (p := .tmp 19) (g := g1) (i := 0) (v := ?v25) ?hgd25 ?ho25 ?hp25 Try.underlying3 ?hd25 B1.out ?hv25 ?_; (case hd25 => rfl); (case hgd25 => rfl); (case ho25 => rfl); (case hp25 => rfl); (case hv25 => rfl)) | ((with_reducible refine gate_dst (N := 38) rfl ?_); refine wq_load1 (ty := 3) (p := .tmp 37) (g := g1) (i := 0) (v := ?v26) ?hgd26 ?ho26 ?hp26 Try.underlying3 ?hd26 B1.out ?hv26 ?_; (case hd26 => rfl); (case hgd26 => rfl); (case ho26 => rfl); (case hp26 => rfl); (case hv26 => rfl)) | (go_at_call 24; (with_reducible refine (li_delete N v0 l i _ HO.out HS.out HL.out HLT.out).mono ?_); rintro e u5_ ⟨v1, rfl, ho, hbk⟩; have n_HO := Aside0.mk ho; have n_HS := Aside0.mk (Nat.le_trans (Nat.le_trans HS.out (Below.refl u4_.heap.size u4_).size) hbk.size); have n_HB := Aside0.mk (Below.trans (HB.out.trans (Below.mono (Below.refl u4_.heap.size u4_) HB.out.size)) (hbk.mono HN.out.2.2)); have n_B1 := Aside0.mk ((hbk.block g1 HN.out.1).trans (blk_below B1.out (Below.refl u4_.heap.size u4_))); have n_B2 := Aside0.mk ((hbk.block g2 HN.out.2.1).trans (blk_below B2.out (Below.refl u4_.heap.size u4_))); clear HB HO HS B1 B2 ho hbk; have HB := n_HB; have HO := n_HO; have HS := n_HS; have B1 := n_B1; have B2 := n_B2; clear n_HB n_HO n_HS n_B1 n_B2) | ((with_reducible refine gate_store (p := 5) rfl ?_); refine wq_store (ty := 30) (p := .tmp 5) (x := .tmp 48) (g := g2) (i := 0) (k := 4) (v := ?v28) (vs := ?vs28) (cs' := ?cs28) ?hgd28 ?hdst28 ?ho28 ?hp28 ?hx28 ?hvc28 ?hi28 ?hk28 ?h128 B2.out ?hsz28 ?hcs28 ?_; (case hi28 => kernel_rfl); (case hgd28 => rfl); (case hdst28 => rfl); (case ho28 => rfl); (case hp28 => rfl); (case hx28 => go_simp; with_reducible rfl); (case hvc28 => simp only [Value.cells]; with_reducible rfl); (case hk28 => rfl); (case h128 => rfl); (case hsz28 => exact Nat.le_of_ble_eq_true rfl); (case hcs28 => simp only [wqPut, List.setIfInBounds_toArray, List.set_cons_succ, List.set_cons_zero, Nat.reduceAdd]; with_reducible rfl); intro w6_ hb hgr; have n_HB := Aside0.mk (HB.out.grown hgr HB.out.size (fun k hk => by cases hk; exact HGB2.out.2)); have n_HO := Aside0.mk (OW.grown HO.out hgr HN.out.2.1); have n_HS := Aside0.mk (Nat.le_trans HS.out hgr.size); have n_B1 := Aside0.mk (wq_blk B1.out hgr HGB2.out.1); have n_B2 := Aside0.mk hb; clear HB HO HS B1 B2 hb hgr; have HB := n_HB; have HO := n_HO; have HS := n_HS; have B1 := n_B1; have B2 := n_B2; clear n_HB n_HO n_HS n_B1 n_B2))
  refine bodyPost_ret (res_tc rfl _ _ _ _ _ _ _ rfl B2.out Try.underlying30 rfl (by kernel_rfl)) rfl ?_
  exact ⟨_, rfl, OW.mono HO.out HN.out.2.2, HB.out⟩
set_option maxHeartbeats 8000000 in
set_option maxRecDepth 100000 in
theorem li_apply_del0 (A0 : Option Addr) (c0 : Nat) (l : List S53) (kd k v q : Int) (hl : l.length ≤ 1000000) (hs : Rising l) (W : World) (hr0 : Kd.C k53 W A0 l.length l) (i : Nat) (hi : kix l k = i) (hil : i ≤ l.length) (hk1 : ¬ kd = 1) (hk2 : kd = 2) (hk3 : ¬ kd = 3) (hth : kthere l k = false) :
    Calls Try.prog 9 #[.slice A0 l.length c0, .agg #[.int .i64 kd, .int .u64 k, .int .u64 v, .int .i64 q]] W fun e w' => ∃ v', e = .returned (.tuple #[v', .agg #[.int .i64 0, .bool false, .int .u64 0, .slice none 0 0]]) ∧ OW w' W.heap.size v' l ∧ Below W.heap.size W w' := by
  have HR0 := Aside0.mk hr0
  have HL := Aside0.mk hl
  have HSR := Aside0.mk hs
  have HI := Aside0.mk hi
  have HIL := Aside0.mk hil
  have HTH := Aside0.mk hth
  have HB := Aside0.mk (Below.refl W.heap.size W)
  subst hk2
  clear hk1 hk3
  clear hr0 hl hs hi hil hth
  go_enter Try.func9, Try.ntmps9
  go_wp2_with (first | ((with_reducible refine gate_dst (N := 3) rfl ?_); refine box_event ?hg29 (N := 3) ?hd29 (cs := #[.int .i64 2, .int .u64 k, .int .u64 v, .int .i64 q]) (t := 25) ?hr29 ?_; (case hd29 => rfl); (case hg29 => rfl); (case hr29 => first | (go_simp; done) | (go_simp; rfl)); intro g1 hg w1_ hbox hbk; have HGB1 := Aside0.mk (show W.heap.size ≤ g1 from by rw [hg]; have := HB.out.size; omega); have n_HB := Aside0.mk (below_step HB.out hbk); clear HB; have HB := n_HB; clear n_HB; have B1 := Aside0.mk hbox; clear hbk hbox hg) | ((with_reducible refine gate_dst (N := 5) rfl ?_); refine box_event ?hg30 (N := 5) ?hd30 (cs := #[.int .i64 0, .bool false, .int .u64 0, .slice none 0 0]) (t := 30) ?hr30 ?_; (case hd30 => rfl); (case hg30 => rfl); (case hr30 => first | (go_simp; done) | (go_simp; rfl)); intro g2 hg w2_ hbox hbk; have HGB2 := Aside0.mk (show g1 ≠ g2 ∧ W.heap.size ≤ g2 from by rw [hg]; have := blk_lt B1.out; have := HB.out.size; omega); have n_HB := Aside0.mk (below_step HB.out hbk); have n_B1 := Aside0.mk (blk_below B1.out hbk); clear HB B1; have HB := n_HB; have B1 := n_B1; clear n_HB n_B1; have B2 := Aside0.mk hbox; clear hbk hbox hg) | ((with_reducible refine gate_dst (N := 12) rfl ?_); refine wq_load1 (ty := 23) (p := .tmp 11) (g := g1) (i := 1) (v := ?v31) ?hgd31 ?ho31 ?hp31 Try.underlying23 ?hd31 B1.out ?hv31 ?_; (case hd31 => rfl); (case hgd31 => rfl); (case ho31 => rfl); (case hp31 => rfl); (case hv31 => rfl)) | (go_at_call 19; (with_reducible refine (li_bs A0 c0 l k HL.out HSR.out _ (Kd.C_below HR0.out HB.out) i false HI.out HTH.out).mono ?_); rintro e u3_ ⟨rfl, hbk⟩; have n_HB := Aside0.mk (below_step HB.out hbk); have n_B1 := Aside0.mk (blk_below B1.out hbk); have n_B2 := Aside0.mk (blk_below B2.out hbk); clear HB B1 B2; have HB := n_HB; have B1 := n_B1; have B2 := n_B2; clear n_HB n_B1 n_B2; clear hbk) | (go_at_call 22; (with_reducible refine (li_cl A0 c0 l _ (Kd.C_below HR0.out HB.out) HL.out).mono ?_); rintro e u4_ ⟨v0, rfl, ho, hbk⟩; have hNN : ∃ N, g1 < N ∧ g2 < N ∧ W.heap.size ≤ N ∧ N ≤ u4_.heap.size ∧ OW u4_ N v0 l := ⟨_, blk_lt B1.out, blk_lt B2.out, HB.out.size, hbk.size, ho⟩; have n_HB := Aside0.mk (below_step HB.out hbk); have n_B1 := Aside0.mk (blk_below B1.out hbk); have n_B2 := Aside0.mk (blk_below B2.out hbk); clear HB B1 B2; have HB := n_HB; have B1 := n_B1; have B2 := n_B2; clear n_HB n_B1 n_B2; clear hbk ho; obtain ⟨N, n1, n2, n3, n4, n5⟩ := hNN; have HN := Aside0.mk (And.intro n1 (And.intro n2 n3)); have HS := Aside0.mk n4; have HO := Aside0.mk n5; clear n1 n2 n3 n4 n5) | ((with_reducible refine gate_dst (N := 20) rfl ?_); refine wq_load1 (ty := 3) (p := .tmp 19) (g := g1) (i := 0) (v := ?v34) ?hgd34 ?ho34 ?hp34 Try.underlying3 ?hd34 B1.out ?hv34 ?_; (case hd34 => rfl); (case hgd34 => rfl); (case ho34 => rfl); (case hp34 => rfl); (case hv34 => rfl)) | ((with_reducible refine gate_dst (N := 38) rfl ?_); refine wq_load1 (ty := 3) (p := .tmp 37) (g := g1) (i := 0) (v := ?v35) ?hgd35 ?ho35 ?hp35 Try.underlying3 ?hd35 B1.out ?hv35 ?_; (case hd35 => rfl); (case hgd35 => rfl); (case ho35 => rfl); (case hp35 => rfl); (case hv35 => rfl)) | ((with_reducible refine gate_dst (N := 51) rfl ?_); refine wq_load1 (ty := 3) (p := .tmp 50) (g := g1) (i := 0) (v := ?v36) ?hgd36 ?ho36 ?hp36 Try.underlying3 ?hd36 B1.out ?hv36 ?_; (case hd36 => rfl); (case hgd36 => rfl); (case ho36 => rfl); (case hp36 => rfl); (case hv36 => rfl)) | ((with_reducible refine gate_store (p := 5) rfl ?_); refine wq_store (ty := 30) (p := .tmp 5) (x := .tmp 64) (g := g2) (i := 0) (k := 4) (v := ?v37) (vs := ?vs37) (cs' := ?cs37) ?hgd37 ?hdst37 ?ho37 ?hp37 ?hx37 ?hvc37 ?hi37 ?hk37 ?h137 B2.out ?hsz37 ?hcs37 ?_; (case hi37 => kernel_rfl); (case hgd37 => rfl); (case hdst37 => rfl); (case ho37 => rfl); (case hp37 => rfl); (case hx37 => go_simp; with_reducible rfl); (case hvc37 => simp only [Value.cells]; with_reducible rfl); (case hk37 => rfl); (case h137 => rfl); (case hsz37 => exact Nat.le_of_ble_eq_true rfl); (case hcs37 => simp only [wqPut, List.setIfInBounds_toArray, List.set_cons_succ, List.set_cons_zero, Nat.reduceAdd]; with_reducible rfl); intro w5_ hb hgr; have n_HB := Aside0.mk (HB.out.grown hgr HB.out.size (fun k hk => by cases hk; exact HGB2.out.2)); have n_HO := Aside0.mk (OW.grown HO.out hgr HN.out.2.1); have n_HS := Aside0.mk (Nat.le_trans HS.out hgr.size); have n_B1 := Aside0.mk (wq_blk B1.out hgr HGB2.out.1); have n_B2 := Aside0.mk hb; clear HB HO HS B1 B2 hb hgr; have HB := n_HB; have HO := n_HO; have HS := n_HS; have B1 := n_B1; have B2 := n_B2; clear n_HB n_HO n_HS n_B1 n_B2))
  refine bodyPost_ret (res_tc rfl _ _ _ _ _ _ _ rfl B2.out Try.underlying30 rfl (by kernel_rfl)) rfl ?_
  exact ⟨_, rfl, OW.mono HO.out HN.out.2.2, HB.out⟩
def li_apply_get_lb (n m : Nat) : Array Bool := ((List.range n).map (fun i => m.testBit i)).toArray
def li_apply_get.T8 : Bool × List (List Nat × List Nat) := (true, [([], []), ([], []), ([], []), ([1, 2], [1, 2]), ([3], [3]), ([4], [4]), ([5], [5]), ([0, 0], [0]), ([6, 7, 0, 1, 2, 3, 4, 5, 6, 7], [6])])
def li_apply_get.B8 : List Nat := [0, 0, 0, 6, 14, 30, 62, 1, 255]
theorem li_apply_get.tab8 : rtab .any (opsOf Try.f9 8) = li_apply_get.T8 := by kernel_rfl
theorem li_apply_get.bits8 : waitsOk li_apply_get.T8.2 li_apply_get.B8 = true := by kernel_rfl
set_option maxHeartbeats 8000000 in
set_option maxRecDepth 100000 in
theorem li_apply_get (A0 : Option Addr) (c0 : Nat) (l : List S53) (kd k v q : Int) (hl : l.length ≤ 1000000) (hs : Rising l) (W : World) (hr0 : Kd.C k53 W A0 l.length l) (i : Nat) (hi : kix l k = i) (hil : i ≤ l.length) (hk1 : ¬ kd = 1) (hk2 : ¬ kd = 2) (hk3 : kd = 3) (hth : kthere l k = true) (hlt : i < l.length) :
    Calls Try.prog 9 #[.slice A0 l.length c0, .agg #[.int .i64 kd, .int .u64 k, .int .u64 v, .int .i64 q]] W fun e w' => ∃ v', e = .returned (.tuple #[v', .agg #[.int .i64 0, .bool true, .int .u64 (rd_T53 l (i : Int)).f1, .slice none 0 0]]) ∧ OW w' W.heap.size v' l ∧ Below W.heap.size W w' := by
  have HR0 := Aside0.mk hr0
  have HL := Aside0.mk hl
  have HSR := Aside0.mk hs
  have HI := Aside0.mk hi
  have HIL := Aside0.mk hil
  have HTH := Aside0.mk hth
  have HB := Aside0.mk (Below.refl W.heap.size W)
  subst hk3
  clear hk1 hk2
  have HLT := Aside0.mk hlt
  clear hr0 hl hs hi hil hth hlt
  obtain ⟨ad, eA, hW0, hW1⟩ := at_T53 HR0.out (i : Int) (by omega) (by have := HLT.out; omega)
  cases eA
  simp only [Int.toNat_natCast] at hW0 hW1
  have hi0 : (0 : Int) ≤ (i : Int) := by omega
  have hil2 : (i : Int) < (l.length : Int) := by have := HLT.out; omega
  go_enter Try.func9, Try.ntmps9
  go_upto_region 8 with (first | ((with_reducible refine gate_dst (N := 3) rfl ?_); refine box_event ?hg38 (N := 3) ?hd38 (cs := #[.int .i64 3, .int .u64 k, .int .u64 v, .int .i64 q]) (t := 25) ?hr38 ?_; (case hd38 => rfl); (case hg38 => rfl); (case hr38 => first | (go_simp; done) | (go_simp; rfl)); intro g1 hg w1_ hbox hbk; have HGB1 := Aside0.mk (show W.heap.size ≤ g1 from by rw [hg]; have := HB.out.size; omega); have n_HB := Aside0.mk (below_step HB.out hbk); clear HB; have HB := n_HB; clear n_HB; have B1 := Aside0.mk hbox; clear hbk hbox hg) | ((with_reducible refine gate_dst (N := 5) rfl ?_); refine box_event ?hg39 (N := 5) ?hd39 (cs := #[.int .i64 0, .bool false, .int .u64 0, .slice none 0 0]) (t := 30) ?hr39 ?_; (case hd39 => rfl); (case hg39 => rfl); (case hr39 => first | (go_simp; done) | (go_simp; rfl)); intro g2 hg w2_ hbox hbk; have HGB2 := Aside0.mk (show g1 ≠ g2 ∧ W.heap.size ≤ g2 from by rw [hg]; have := blk_lt B1.out; have := HB.out.size; omega); have n_HB := Aside0.mk (below_step HB.out hbk); have n_B1 := Aside0.mk (blk_below B1.out hbk); clear HB B1; have HB := n_HB; have B1 := n_B1; clear n_HB n_B1; have B2 := Aside0.mk hbox; clear hbk hbox hg) | ((with_reducible refine gate_dst (N := 12) rfl ?_); refine wq_load1 (ty := 23) (p := .tmp 11) (g := g1) (i := 1) (v := ?v40) ?hgd40 ?ho40 ?hp40 Try.underlying23 ?hd40 B1.out ?hv40 ?_; (case hd40 => rfl); (case hgd40 => rfl); (case ho40 => rfl); (case hp40 => rfl); (case hv40 => rfl)) | (go_at_call 19; (with_reducible refine (li_bs (some ad) c0 l k HL.out HSR.out _ (Kd.C_below HR0.out HB.out) i true HI.out HTH.out).mono ?_); rintro e u3_ ⟨rfl, hbk⟩; have n_HB := Aside0.mk (below_step HB.out hbk); have n_B1 := Aside0.mk (blk_below B1.out hbk); have n_B2 := Aside0.mk (blk_below B2.out hbk); clear HB B1 B2; have HB := n_HB; have B1 := n_B1; have B2 := n_B2; clear n_HB n_B1 n_B2; clear hbk) | (go_at_call 22; (with_reducible refine (li_cl (some ad) c0 l _ (Kd.C_below HR0.out HB.out) HL.out).mono ?_); rintro e u4_ ⟨v0, rfl, ho, hbk⟩; have hNN : ∃ N, g1 < N ∧ g2 < N ∧ W.heap.size ≤ N ∧ N ≤ u4_.heap.size ∧ OW u4_ N v0 l := ⟨_, blk_lt B1.out, blk_lt B2.out, HB.out.size, hbk.size, ho⟩; have n_HB := Aside0.mk (below_step HB.out hbk); have n_B1 := Aside0.mk (blk_below B1.out hbk); have n_B2 := Aside0.mk (blk_below B2.out hbk); clear HB B1 B2; have HB := n_HB; have B1 := n_B1; have B2 := n_B2; clear n_HB n_B1 n_B2; clear hbk ho; obtain ⟨N, n1, n2, n3, n4, n5⟩ := hNN; have HN := Aside0.mk (And.intro n1 (And.intro n2 n3)); have HS := Aside0.mk n4; have HO := Aside0.mk n5; clear n1 n2 n3 n4 n5) | ((with_reducible refine gate_dst (N := 20) rfl ?_); refine wq_load1 (ty := 3) (p := .tmp 19) (g := g1) (i := 0) (v := ?v43) ?hgd43 ?ho43 ?hp43 Try.underlying3 ?hd43 B1.out ?hv43 ?_; (case hd43 => rfl); (case hgd43 => rfl); (case ho43 => rfl); (case hp43 => rfl); (case hv43 => rfl)) | ((with_reducible refine gate_dst (N := 38) rfl ?_); refine wq_load1 (ty := 3) (p := .tmp 37) (g := g1) (i := 0) (v := ?v44) ?hgd44 ?ho44 ?hp44 Try.underlying3 ?hd44 B1.out ?hv44 ?_; (case hd44 => rfl); (case hgd44 => rfl); (case ho44 => rfl); (case hp44 => rfl); (case hv44 => rfl)) | ((with_reducible refine gate_dst (N := 51) rfl ?_); refine wq_load1 (ty := 3) (p := .tmp 50) (g := g1) (i := 0) (v := ?v45) ?hgd45 ?ho45 ?hp45 Try.underlying3 ?hd45 B1.out ?hv45 ?_; (case hd45 => rfl); (case hgd45 => rfl); (case ho45 => rfl); (case hp45 => rfl); (case hv45 => rfl)))
  have n_HB := Aside0.mk (below_drew1 HB.out)
  have n_HO := Aside0.mk (OW.below HO.out (below_drew1 (Below.refl _ _)))
  have n_HS := Aside0.mk (hs_drew HS.out)
  have n_B1 := Aside0.mk (blk_drew B1.out)
  have n_B2 := Aside0.mk (blk_drew B2.out)
  clear HB HO HS B1 B2
  have HB := n_HB
  have HO := n_HO
  have HS := n_HS
  have B1 := n_B1
  have B2 := n_B2
  clear n_HB n_HO n_HS n_B1 n_B2
  refine start_ (n := 9) (S := fun w' => w'.cell? ⟨(ad.add (i * 2)).block, (ad.add (i * 2)).off + 1, none⟩ = some (.int .u64 (rd_T53 l (i : Int)).f1)) (ds := [8]) #[false, false, false, false, false, false, false, false, false] (by kernel_rfl) rfl rfl ((pw_cell_below HB.out hW1)) (fun hHeld => ?_); refine with_tabW li_apply_get.tab8 li_apply_get.bits8 (fun HT_ HW_ => ?_)
  generalize u4_.drew = v5_ at HB HO HS B1 B2 hHeld ⊢
  refine pure_ (i := 0) (N := some 56) (v := ?_) (a' := ?_) (li_apply_get_lb 9 1) rfl rfl (any_of HT_.out (by kernel_rfl)) (fun _ _ _ h => h) (Or.inl ⟨by rfl, ?_⟩) ?_ ?_; rotate_left
  · intro w'; go_simp; with_reducible rfl
  rotate_left
  · simp only [Act.put, List.setIfInBounds_toArray, List.set_cons_zero, List.set_cons_succ, i64_w, i32_w]; rfl
  refine pure_ (i := 1) (N := some 57) (v := ?_) (a' := ?_) (li_apply_get_lb 9 3) rfl rfl (any_of HT_.out (by kernel_rfl)) (fun _ _ _ h => h) (Or.inl ⟨by rfl, ?_⟩) ?_ ?_; rotate_left
  · intro w'; go_simp; with_reducible rfl
  rotate_left
  · simp only [Act.put, List.setIfInBounds_toArray, List.set_cons_zero, List.set_cons_succ, i64_w, i32_w]; rfl
  refine pure_ (i := 2) (N := some 58) (v := ?_) (a' := ?_) (li_apply_get_lb 9 7) rfl rfl (any_of HT_.out (by kernel_rfl)) (fun _ _ _ h => h) (Or.inl ⟨by rfl, ?_⟩) ?_ ?_; rotate_left
  · intro w'; go_simp; with_reducible rfl
  rotate_left
  · simp only [Act.put, List.setIfInBounds_toArray, List.set_cons_zero, List.set_cons_succ, i64_w, i32_w]; rfl
  refine pure_ (i := 3) (N := some 59) (v := ?_) (a' := ?_) (li_apply_get_lb 9 15) rfl rfl (any_of HT_.out (by kernel_rfl)) (fun _ _ _ h => h) (Or.inl ⟨by rfl, ?_⟩) ?_ ?_; rotate_left
  · intro w'; go_simp; with_reducible rfl
  rotate_left
  · simp only [Act.put, List.setIfInBounds_toArray, List.set_cons_zero, List.set_cons_succ, i64_w, i32_w]; rfl
  refine pure_ (i := 4) (N := some 60) (v := ?_) (a' := ?_) (li_apply_get_lb 9 31) rfl rfl (any_of HT_.out (by kernel_rfl)) (fun _ _ _ h => h) (Or.inl ⟨by rfl, ?_⟩) ?_ ?_; rotate_left
  · intro w'; go_simp; with_reducible rfl
  rotate_left
  · simp only [Act.put, List.setIfInBounds_toArray, List.set_cons_zero, List.set_cons_succ, i64_w, i32_w]; rfl
  refine pure_ (i := 7) (N := some 4) (v := ?_) (a' := ?_) (li_apply_get_lb 9 159) rfl rfl (any_of HT_.out (by kernel_rfl)) (fun _ _ _ h => h) (Or.inl ⟨by rfl, ?_⟩) ?_ ?_; rotate_left
  · intro w'; go_simp; with_reducible rfl
  rotate_left
  · simp only [Act.put, List.setIfInBounds_toArray, List.set_cons_zero, List.set_cons_succ, i64_w, i32_w]; rfl
  refine take_ (i := 5) (N := some 61) (v := ?_) (a' := ?_) (li_apply_get_lb 9 191) rfl rfl (take_ofW HT_.out HW_.out (by kernel_rfl)) (fun _ _ _ h => h) (Or.inl ⟨by rfl, ?_⟩) hHeld ?_ ?_; rotate_left
  · intro w' s0; go_simp; with_reducible rfl
  rotate_left
  · simp only [Act.put, List.setIfInBounds_toArray, List.set_cons_zero, List.set_cons_succ, i64_w, i32_w]; rfl
  refine pure_ (i := 6) (N := some 62) (v := ?_) (a' := ?_) (li_apply_get_lb 9 255) rfl rfl (any_of HT_.out (by kernel_rfl)) (fun _ _ _ h => h) (Or.inl ⟨by rfl, ?_⟩) ?_ ?_; rotate_left
  · intro w'; go_simp; with_reducible rfl
  rotate_left
  · simp only [Act.put, List.setIfInBounds_toArray, List.set_cons_zero, List.set_cons_succ, i64_w, i32_w]; rfl
  refine last_ (i := 8) (N := none) (li_apply_get_lb 9 511) rfl rfl (one_of HT_.out (by kernel_rfl)) (by decide) (fun K hK => ?_)
  refine wq_skip (ty := 30) (p := .tmp 5) (x := .tmp 62) (g := g2) (i := 0) (k := 4) (v := ?v46) (vs := ?vs46) (cs' := ?cs46) ?hw46 ?hN46 ?ho46 ?hp46 ?hx46 ?hvc46 ?hi46 ?hk46 ?h146 B2.out ?hsz46 ?hcs46 ?_
  case hi46 => kernel_rfl
  case hw46 => rfl
  case hN46 => rfl
  case ho46 => rfl
  case hp46 => rfl
  case hx46 => go_simp; with_reducible rfl
  case hvc46 => simp only [Value.cells]; with_reducible rfl
  case hk46 => rfl
  case h146 => rfl
  case hsz46 => exact Nat.le_of_ble_eq_true rfl
  case hcs46 => simp only [wqPut, List.setIfInBounds_toArray, List.set_cons_succ, List.set_cons_zero, Nat.reduceAdd]; with_reducible rfl
  intro w6_ hb hgr
  have n_HB := Aside0.mk (HB.out.grown hgr HB.out.size (fun k hk => by cases hk; exact HGB2.out.2))
  have n_HO := Aside0.mk (OW.grown HO.out hgr HN.out.2.1)
  have n_HS := Aside0.mk (Nat.le_trans HS.out hgr.size)
  have n_B1 := Aside0.mk (wq_blk B1.out hgr HGB2.out.1)
  have n_B2 := Aside0.mk hb
  clear HB HO HS B1 B2 hb hgr
  have HB := n_HB
  have HO := n_HO
  have HS := n_HS
  have B1 := n_B1
  have B2 := n_B2
  clear n_HB n_HO n_HS n_B1 n_B2
  refine hK.out _ _ ?_
  clear hK K
  refine done_ (done_of HT_.out (by kernel_rfl)) ?_
  go_wp2
  refine bodyPost_ret (res_tc rfl _ _ _ _ _ _ _ rfl B2.out Try.underlying30 rfl (by kernel_rfl)) rfl ?_
  exact ⟨_, rfl, OW.mono HO.out HN.out.2.2, HB.out⟩
set_option maxHeartbeats 8000000 in
set_option maxRecDepth 100000 in
theorem li_apply_get0 (A0 : Option Addr) (c0 : Nat) (l : List S53) (kd k v q : Int) (hl : l.length ≤ 1000000) (hs : Rising l) (W : World) (hr0 : Kd.C k53 W A0 l.length l) (i : Nat) (hi : kix l k = i) (hil : i ≤ l.length) (hk1 : ¬ kd = 1) (hk2 : ¬ kd = 2) (hk3 : kd = 3) (hth : kthere l k = false) :
    Calls Try.prog 9 #[.slice A0 l.length c0, .agg #[.int .i64 kd, .int .u64 k, .int .u64 v, .int .i64 q]] W fun e w' => ∃ v', e = .returned (.tuple #[v', .agg #[.int .i64 0, .bool false, .int .u64 0, .slice none 0 0]]) ∧ OW w' W.heap.size v' l ∧ Below W.heap.size W w' := by
  have HR0 := Aside0.mk hr0
  have HL := Aside0.mk hl
  have HSR := Aside0.mk hs
  have HI := Aside0.mk hi
  have HIL := Aside0.mk hil
  have HTH := Aside0.mk hth
  have HB := Aside0.mk (Below.refl W.heap.size W)
  subst hk3
  clear hk1 hk2
  clear hr0 hl hs hi hil hth
  go_enter Try.func9, Try.ntmps9
  go_wp2_with (first | ((with_reducible refine gate_dst (N := 3) rfl ?_); refine box_event ?hg47 (N := 3) ?hd47 (cs := #[.int .i64 3, .int .u64 k, .int .u64 v, .int .i64 q]) (t := 25) ?hr47 ?_; (case hd47 => rfl); (case hg47 => rfl); (case hr47 => first | (go_simp; done) | (go_simp; rfl)); intro g1 hg w1_ hbox hbk; have HGB1 := Aside0.mk (show W.heap.size ≤ g1 from by rw [hg]; have := HB.out.size; omega); have n_HB := Aside0.mk (below_step HB.out hbk); clear HB; have HB := n_HB; clear n_HB; have B1 := Aside0.mk hbox; clear hbk hbox hg) | ((with_reducible refine gate_dst (N := 5) rfl ?_); refine box_event ?hg48 (N := 5) ?hd48 (cs := #[.int .i64 0, .bool false, .int .u64 0, .slice none 0 0]) (t := 30) ?hr48 ?_; (case hd48 => rfl); (case hg48 => rfl); (case hr48 => first | (go_simp; done) | (go_simp; rfl)); intro g2 hg w2_ hbox hbk; have HGB2 := Aside0.mk (show g1 ≠ g2 ∧ W.heap.size ≤ g2 from by rw [hg]; have := blk_lt B1.out; have := HB.out.size; omega); have n_HB := Aside0.mk (below_step HB.out hbk); have n_B1 := Aside0.mk (blk_below B1.out hbk); clear HB B1; have HB := n_HB; have B1 := n_B1; clear n_HB n_B1; have B2 := Aside0.mk hbox; clear hbk hbox hg) | ((with_reducible refine gate_dst (N := 12) rfl ?_); refine wq_load1 (ty := 23) (p := .tmp 11) (g := g1) (i := 1) (v := ?v49) ?hgd49 ?ho49 ?hp49 Try.underlying23 ?hd49 B1.out ?hv49 ?_; (case hd49 => rfl); (case hgd49 => rfl); (case ho49 => rfl); (case hp49 => rfl); (case hv49 => rfl)) | (go_at_call 19; (with_reducible refine (li_bs A0 c0 l k HL.out HSR.out _ (Kd.C_below HR0.out HB.out) i false HI.out HTH.out).mono ?_); rintro e u3_ ⟨rfl, hbk⟩; have n_HB := Aside0.mk (below_step HB.out hbk); have n_B1 := Aside0.mk (blk_below B1.out hbk); have n_B2 := Aside0.mk (blk_below B2.out hbk); clear HB B1 B2; have HB := n_HB; have B1 := n_B1; have B2 := n_B2; clear n_HB n_B1 n_B2; clear hbk) | (go_at_call 22; (with_reducible refine (li_cl A0 c0 l _ (Kd.C_below HR0.out HB.out) HL.out).mono ?_); rintro e u4_ ⟨v0, rfl, ho, hbk⟩; have hNN : ∃ N, g1 < N ∧ g2 < N ∧ W.heap.size ≤ N ∧ N ≤ u4_.heap.size ∧ OW u4_ N v0 l := ⟨_, blk_lt B1.out, blk_lt B2.out, HB.out.size, hbk.size, ho⟩; have n_HB := Aside0.mk (below_step HB.out hbk); have n_B1 := Aside0.mk (blk_below B1.out hbk); have n_B2 := Aside0.mk (blk_below B2.out hbk); clear HB B1 B2; have HB := n_HB; have B1 := n_B1; have B2 := n_B2; clear n_HB n_B1 n_B2; clear hbk ho; obtain ⟨N, n1, n2, n3, n4, n5⟩ := hNN; have HN := Aside0.mk (And.intro n1 (And.intro n2 n3)); have HS := Aside0.mk n4; have HO := Aside0.mk n5; clear n1 n2 n3 n4 n5) | ((with_reducible refine gate_dst (N := 20) rfl ?_); refine wq_load1 (ty := 3) (p := .tmp 19) (g := g1) (i := 0) (v := ?v52) ?hgd52 ?ho52 ?hp52 Try.underlying3 ?hd52 B1.out ?hv52 ?_; (case hd52 => rfl); (case hgd52 => rfl); (case ho52 => rfl); (case hp52 => rfl); (case hv52 => rfl)) | ((with_reducible refine gate_dst (N := 38) rfl ?_); refine wq_load1 (ty := 3) (p := .tmp 37) (g := g1) (i := 0) (v := ?v53) ?hgd53 ?ho53 ?hp53 Try.underlying3 ?hd53 B1.out ?hv53 ?_; (case hd53 => rfl); (case hgd53 => rfl); (case ho53 => rfl); (case hp53 => rfl); (case hv53 => rfl)) | ((with_reducible refine gate_dst (N := 51) rfl ?_); refine wq_load1 (ty := 3) (p := .tmp 50) (g := g1) (i := 0) (v := ?v54) ?hgd54 ?ho54 ?hp54 Try.underlying3 ?hd54 B1.out ?hv54 ?_; (case hd54 => rfl); (case hgd54 => rfl); (case ho54 => rfl); (case hp54 => rfl); (case hv54 => rfl)) | ((with_reducible refine gate_store (p := 5) rfl ?_); refine wq_store (ty := 30) (p := .tmp 5) (x := .tmp 64) (g := g2) (i := 0) (k := 4) (v := ?v55) (vs := ?vs55) (cs' := ?cs55) ?hgd55 ?hdst55 ?ho55 ?hp55 ?hx55 ?hvc55 ?hi55 ?hk55 ?h155 B2.out ?hsz55 ?hcs55 ?_; (case hi55 => kernel_rfl); (case hgd55 => rfl); (case hdst55 => rfl); (case ho55 => rfl); (case hp55 => rfl); (case hx55 => go_simp; with_reducible rfl); (case hvc55 => simp only [Value.cells]; with_reducible rfl); (case hk55 => rfl); (case h155 => rfl); (case hsz55 => exact Nat.le_of_ble_eq_true rfl); (case hcs55 => simp only [wqPut, List.setIfInBounds_toArray, List.set_cons_succ, List.set_cons_zero, Nat.reduceAdd]; with_reducible rfl); intro w5_ hb hgr; have n_HB := Aside0.mk (HB.out.grown hgr HB.out.size (fun k hk => by cases hk; exact HGB2.out.2)); have n_HO := Aside0.mk (OW.grown HO.out hgr HN.out.2.1); have n_HS := Aside0.mk (Nat.le_trans HS.out hgr.size); have n_B1 := Aside0.mk (wq_blk B1.out hgr HGB2.out.1); have n_B2 := Aside0.mk hb; clear HB HO HS B1 B2 hb hgr; have HB := n_HB; have HO := n_HO; have HS := n_HS; have B1 := n_B1; have B2 := n_B2; clear n_HB n_HO n_HS n_B1 n_B2))
  refine bodyPost_ret (res_tc rfl _ _ _ _ _ _ _ rfl B2.out Try.underlying30 rfl (by kernel_rfl)) rfl ?_
  exact ⟨_, rfl, OW.mono HO.out HN.out.2.2, HB.out⟩
set_option maxHeartbeats 8000000 in
set_option maxRecDepth 100000 in
theorem li_apply_oth (A0 : Option Addr) (c0 : Nat) (l : List S53) (kd k v q : Int) (hl : l.length ≤ 1000000) (hs : Rising l) (W : World) (hr0 : Kd.C k53 W A0 l.length l) (i : Nat) (hi : kix l k = i) (hil : i ≤ l.length) (hk1 : ¬ kd = 1) (hk2 : ¬ kd = 2) (hk3 : ¬ kd = 3) (b : Bool) (hth : kthere l k = b) :
    Calls Try.prog 9 #[.slice A0 l.length c0, .agg #[.int .i64 kd, .int .u64 k, .int .u64 v, .int .i64 q]] W fun e w' => ∃ v', e = .returned (.tuple #[v', .agg #[.int .i64 0, .bool false, .int .u64 0, .slice none 0 0]]) ∧ OW w' W.heap.size v' l ∧ Below W.heap.size W w' := by
  have HR0 := Aside0.mk hr0
  have HL := Aside0.mk hl
  have HSR := Aside0.mk hs
  have HI := Aside0.mk hi
  have HIL := Aside0.mk hil
  have HTH := Aside0.mk hth
  have HB := Aside0.mk (Below.refl W.heap.size W)
  have b1 : (kd == 1) = false := beq_eq_false_iff_ne.mpr hk1
  have b2 : (kd == 2) = false := beq_eq_false_iff_ne.mpr hk2
  have b3 : (kd == 3) = false := beq_eq_false_iff_ne.mpr hk3
  clear hk1 hk2 hk3
  clear hr0 hl hs hi hil hth
  go_enter Try.func9, Try.ntmps9
  go_wp2_with (first | ((with_reducible refine gate_dst (N := 3) rfl ?_); refine box_event ?hg56 (N := 3) ?hd56 (cs := #[.int .i64 kd, .int .u64 k, .int .u64 v, .int .i64 q]) (t := 25) ?hr56 ?_; (case hd56 => rfl); (case hg56 => rfl); (case hr56 => first | (go_simp; done) | (go_simp; rfl)); intro g1 hg w1_ hbox hbk; have HGB1 := Aside0.mk (show W.heap.size ≤ g1 from by rw [hg]; have := HB.out.size; omega); have n_HB := Aside0.mk (below_step HB.out hbk); clear HB; have HB := n_HB; clear n_HB; have B1 := Aside0.mk hbox; clear hbk hbox hg) | ((with_reducible refine gate_dst (N := 5) rfl ?_); refine box_event ?hg57 (N := 5) ?hd57 (cs := #[.int .i64 0, .bool false, .int .u64 0, .slice none 0 0]) (t := 30) ?hr57 ?_; (case hd57 => rfl); (case hg57 => rfl); (case hr57 => first | (go_simp; done) | (go_simp; rfl)); intro g2 hg w2_ hbox hbk; have HGB2 := Aside0.mk (show g1 ≠ g2 ∧ W.heap.size ≤ g2 from by rw [hg]; have := blk_lt B1.out; have := HB.out.size; omega); have n_HB := Aside0.mk (below_step HB.out hbk); have n_B1 := Aside0.mk (blk_below B1.out hbk); clear HB B1; have HB := n_HB; have B1 := n_B1; clear n_HB n_B1; have B2 := Aside0.mk hbox; clear hbk hbox hg) | ((with_reducible refine gate_dst (N := 12) rfl ?_); refine wq_load1 (ty := 23) (p := .tmp 11) (g := g1) (i := 1) (v := ?v58) ?hgd58 ?ho58 ?hp58 Try.underlying23 ?hd58 B1.out ?hv58 ?_; (case hd58 => rfl); (case hgd58 => rfl); (case ho58 => rfl); (case hp58 => rfl); (case hv58 => rfl)) | (go_at_call 19; (with_reducible refine (li_bs A0 c0 l k HL.out HSR.out _ (Kd.C_below HR0.out HB.out) i b HI.out HTH.out).mono ?_); rintro e u3_ ⟨rfl, hbk⟩; have n_HB := Aside0.mk (below_step HB.out hbk); have n_B1 := Aside0.mk (blk_below B1.out hbk); have n_B2 := Aside0.mk (blk_below B2.out hbk); clear HB B1 B2; have HB := n_HB; have B1 := n_B1; have B2 := n_B2; clear n_HB n_B1 n_B2; clear hbk) | (go_at_call 22; (with_reducible refine (li_cl A0 c0 l _ (Kd.C_below HR0.out HB.out) HL.out).mono ?_); rintro e u4_ ⟨v0, rfl, ho, hbk⟩; have hNN : ∃ N, g1 < N ∧ g2 < N ∧ W.heap.size ≤ N ∧ N ≤ u4_.heap.size ∧ OW u4_ N v0 l := ⟨_, blk_lt B1.out, blk_lt B2.out, HB.out.size, hbk.size, ho⟩; have n_HB := Aside0.mk (below_step HB.out hbk); have n_B1 := Aside0.mk (blk_below B1.out hbk); have n_B2 := Aside0.mk (blk_below B2.out hbk); clear HB B1 B2; have HB := n_HB; have B1 := n_B1; have B2 := n_B2; clear n_HB n_B1 n_B2; clear hbk ho; obtain ⟨N, n1, n2, n3, n4, n5⟩ := hNN; have HN := Aside0.mk (And.intro n1 (And.intro n2 n3)); have HS := Aside0.mk n4; have HO := Aside0.mk n5; clear n1 n2 n3 n4 n5) | ((with_reducible refine gate_dst (N := 20) rfl ?_); refine wq_load1 (ty := 3) (p := .tmp 19) (g := g1) (i := 0) (v := ?v61) ?hgd61 ?ho61 ?hp61 Try.underlying3 ?hd61 B1.out ?hv61 ?_; (case hd61 => rfl); (case hgd61 => rfl); (case ho61 => rfl); (case hp61 => rfl); (case hv61 => rfl)) | ((with_reducible refine gate_dst (N := 38) rfl ?_); refine wq_load1 (ty := 3) (p := .tmp 37) (g := g1) (i := 0) (v := ?v62) ?hgd62 ?ho62 ?hp62 Try.underlying3 ?hd62 B1.out ?hv62 ?_; (case hd62 => rfl); (case hgd62 => rfl); (case ho62 => rfl); (case hp62 => rfl); (case hv62 => rfl)) | ((with_reducible refine gate_dst (N := 51) rfl ?_); refine wq_load1 (ty := 3) (p := .tmp 50) (g := g1) (i := 0) (v := ?v63) ?hgd63 ?ho63 ?hp63 Try.underlying3 ?hd63 B1.out ?hv63 ?_; (case hd63 => rfl); (case hgd63 => rfl); (case ho63 => rfl); (case hp63 => rfl); (case hv63 => rfl)) | ((with_reducible refine gate_store (p := 5) rfl ?_); refine wq_store (ty := 30) (p := .tmp 5) (x := .tmp 64) (g := g2) (i := 0) (k := 4) (v := ?v64) (vs := ?vs64) (cs' := ?cs64) ?hgd64 ?hdst64 ?ho64 ?hp64 ?hx64 ?hvc64 ?hi64 ?hk64 ?h164 B2.out ?hsz64 ?hcs64 ?_; (case hi64 => kernel_rfl); (case hgd64 => rfl); (case hdst64 => rfl); (case ho64 => rfl); (case hp64 => rfl); (case hx64 => go_simp; with_reducible rfl); (case hvc64 => simp only [Value.cells]; with_reducible rfl); (case hk64 => rfl); (case h164 => rfl); (case hsz64 => exact Nat.le_of_ble_eq_true rfl); (case hcs64 => simp only [wqPut, List.setIfInBounds_toArray, List.set_cons_succ, List.set_cons_zero, Nat.reduceAdd]; with_reducible rfl); intro w5_ hb hgr; have n_HB := Aside0.mk (HB.out.grown hgr HB.out.size (fun k hk => by cases hk; exact HGB2.out.2)); have n_HO := Aside0.mk (OW.grown HO.out hgr HN.out.2.1); have n_HS := Aside0.mk (Nat.le_trans HS.out hgr.size); have n_B1 := Aside0.mk (wq_blk B1.out hgr HGB2.out.1); have n_B2 := Aside0.mk hb; clear HB HO HS B1 B2 hb hgr; have HB := n_HB; have HO := n_HO; have HS := n_HS; have B1 := n_B1; have B2 := n_B2; clear n_HB n_HO n_HS n_B1 n_B2))
  refine bodyPost_ret (res_tc rfl _ _ _ _ _ _ _ rfl B2.out Try.underlying30 rfl (by kernel_rfl)) rfl ?_
  exact ⟨_, rfl, OW.mono HO.out HN.out.2.2, HB.out⟩

def apL (l : List S53) (kd k v : Int) : List S53 := if kd = 1 ∧ kthere l k = false then insl l (kix l k) ⟨k, v⟩ else if kd = 2 ∧ kthere l k = true then dell l (kix l k) else l
def apD (l : List S53) (kd k : Int) : Bool := decide ((kd = 1 ∧ kthere l k = false) ∨ ((kd = 2 ∨ kd = 3) ∧ kthere l k = true))
def apV (l : List S53) (kd k : Int) : Int := if kd = 3 ∧ kthere l k = true then (rd_T53 l (kix l k : Int)).f1 else 0
theorem kthere_lt {l : List S53} {k : Int} (h : kthere l k = true) : kix l k < l.length := by
  unfold kthere at h
  exact (of_decide_eq_true h).1
theorem kthere_eq {l : List S53} {k : Int} (h : kthere l k = true) : (rd_T53 l (kix l k : Int)).f0 = k := by
  unfold kthere at h
  exact (of_decide_eq_true h).2
/-- Apply's contract -/
theorem li_Apply (A0 : Option Addr) (c0 : Nat) (l : List S53) (kd k v q : Int) (hl : l.length ≤ 1000000) (hs : Rising l) (W : World) (hr0 : Kd.C k53 W A0 l.length l) :
    Calls Try.prog 9 #[.slice A0 l.length c0, .agg #[.int .i64 kd, .int .u64 k, .int .u64 v, .int .i64 q]] W fun e w' => ∃ v', e = .returned (.tuple #[v', .agg #[.int .i64 0, .bool (apD l kd k), .int .u64 (apV l kd k), .slice none 0 0]]) ∧ OW w' W.heap.size v' (apL l kd k v) ∧ Below W.heap.size W w' := by
  have hle := kix_le l k
  cases hth : kthere l k with
  | true =>
    have hlt := kthere_lt hth
    by_cases h1 : kd = 1
    · have e1 : apD l kd k = false := decide_eq_false (by rw [h1, hth]; simp)
      have e2 : apV l kd k = 0 := if_neg (by rw [h1]; simp)
      have e3 : apL l kd k v = l := by unfold apL; rw [if_neg (by rw [hth]; simp), if_neg (by rw [h1]; simp)]
      rw [e1, e2, e3]
      exact li_apply_ins0 A0 c0 l kd k v q hl hs W hr0 _ rfl hle h1 (by omega) (by omega) hth hlt
    · by_cases h2 : kd = 2
      · have e1 : apD l kd k = true := decide_eq_true (.inr ⟨.inl h2, hth⟩)
        have e2 : apV l kd k = 0 := if_neg (by rw [h2]; simp)
        have e3 : apL l kd k v = dell l (kix l k) := by unfold apL; rw [if_neg (by rw [hth]; simp), if_pos ⟨h2, hth⟩]
        rw [e1, e2, e3]
        exact li_apply_del A0 c0 l kd k v q hl hs W hr0 _ rfl hle h1 h2 hth hlt
      · by_cases h3 : kd = 3
        · have e1 : apD l kd k = true := decide_eq_true (.inr ⟨.inr h3, hth⟩)
          have e2 : apV l kd k = (rd_T53 l (kix l k : Int)).f1 := if_pos ⟨h3, hth⟩
          have e3 : apL l kd k v = l := by unfold apL; rw [if_neg (by rw [hth]; simp), if_neg (fun h => h2 h.1)]
          rw [e1, e2, e3]
          exact li_apply_get A0 c0 l kd k v q hl hs W hr0 _ rfl hle h1 h2 h3 hth hlt
        · have e1 : apD l kd k = false := decide_eq_false (fun h => h.elim (fun h => h1 h.1) (fun h => h.1.elim h2 h3))
          have e2 : apV l kd k = 0 := if_neg (fun h => h3 h.1)
          have e3 : apL l kd k v = l := by unfold apL; rw [if_neg (fun h => h1 h.1), if_neg (fun h => h2 h.1)]
          rw [e1, e2, e3]
          exact li_apply_oth A0 c0 l kd k v q hl hs W hr0 _ rfl hle h1 h2 h3 true hth
  | false =>
    by_cases h1 : kd = 1
    · have e1 : apD l kd k = true := decide_eq_true (.inl ⟨h1, hth⟩)
      have e2 : apV l kd k = 0 := if_neg (by rw [h1]; simp)
      have e3 : apL l kd k v = insl l (kix l k) ⟨k, v⟩ := if_pos ⟨h1, hth⟩
      rw [e1, e2, e3]
      exact li_apply_ins A0 c0 l kd k v q hl hs W hr0 _ rfl hle h1 hth
    · have e1 : apD l kd k = false := decide_eq_false (fun h => h.elim (fun h => h1 h.1) (fun h => by have h9 := h.2; rw [hth] at h9; cases h9))
      have e2 : apV l kd k = 0 := if_neg (by rw [hth]; simp)
      have e3 : apL l kd k v = l := by unfold apL; rw [if_neg (fun h => h1 h.1), if_neg (by rw [hth]; simp)]
      rw [e1, e2, e3]
      by_cases h2 : kd = 2
      · exact li_apply_del0 A0 c0 l kd k v q hl hs W hr0 _ rfl hle h1 h2 (by omega) hth
      · by_cases h3 : kd = 3
        · exact li_apply_get0 A0 c0 l kd k v q hl hs W hr0 _ rfl hle h1 h2 h3 hth
        · exact li_apply_oth A0 c0 l kd k v q hl hs W hr0 _ rfl hle h1 h2 h3 false hth
theorem apL_len (l : List S53) (kd k v : Int) : (apL l kd k v).length ≤ l.length + 1 := by
  unfold apL
  split
  · rw [insl_len _ _ _ (kix_le l k)]; exact Nat.le_refl _
  · split
    · rename_i h
      rw [dell_len _ _ (kthere_lt h.2)]; omega
    · omega
/-- what lies ahead of a key's place, what at it and behind -/
theorem rising_take {l : List S53} {k : Int} : ∀ p ∈ l.take (kix l k), p.f0 < k := by
  intro p hp
  obtain ⟨j, hj, e⟩ := List.getElem_of_mem hp
  rw [List.length_take] at hj
  have := kix_low l k j (by omega)
  rw [List.getElem_take] at e
  rw [← e]
  exact this
theorem rising_drop {l : List S53} {k : Int} (hs : Rising l) : ∀ p ∈ l.drop (kix l k), k ≤ p.f0 := by
  intro p hp
  obtain ⟨j, hj, e⟩ := List.getElem_of_mem hp
  rw [List.length_drop] at hj
  rw [List.getElem_drop] at e
  have h0 := kix_at l k (by omega)
  rcases Nat.eq_zero_or_pos j with h | h
  · subst h
    rw [← e]
    exact h0
  · have := rising_lt hs (kix l k) (kix l k + j) (by omega) (by omega)
    rw [← e]
    omega
theorem kthere_ne {l : List S53} {k : Int} (hs : Rising l) (h : kthere l k = false) : ∀ p ∈ l.drop (kix l k), k < p.f0 := by
  intro p hp
  have h1 := rising_drop hs p hp
  rcases Int.lt_or_eq_of_le h1 with h2 | h2
  · exact h2
  · obtain ⟨j, hj, e⟩ := List.getElem_of_mem hp
    rw [List.length_drop] at hj
    rw [List.getElem_drop] at e
    exfalso
    have h0 := kix_at l k (by omega)
    have hne : ¬ (l[kix l k]'(by omega)).f0 = k := by
      intro e0
      have : kthere l k = true := by
        unfold kthere
        refine decide_eq_true ⟨by omega, ?_⟩
        rw [li_rd _ _ (by omega)]
        exact e0
      rw [this] at h
      cases h
    rcases Nat.eq_zero_or_pos j with h3 | h3
    · subst h3
      exact hne ((congrArg (fun q => q.f0) e).trans h2.symm)
    · have := rising_lt hs (kix l k) (kix l k + j) (by omega) (by omega)
      rw [e] at this
      omega
theorem rising_insl {l : List S53} {k v : Int} (hs : Rising l) (h : kthere l k = false) : Rising (insl l (kix l k) ⟨k, v⟩) := by
  unfold insl
  unfold Rising
  rw [List.pairwise_append]
  refine ⟨List.Pairwise.sublist (List.take_sublist _ _) hs, ?_, ?_⟩
  · rw [List.pairwise_cons]
    exact ⟨fun p hp => kthere_ne hs h p hp, List.Pairwise.sublist (List.drop_sublist _ _) hs⟩
  · intro a ha b hb
    have h1 := rising_take a ha
    rcases List.mem_cons.mp hb with rfl | hb
    · exact h1
    · have := rising_drop hs b hb
      omega
theorem rising_dell {l : List S53} (i : Nat) (hs : Rising l) : Rising (dell l i) := by
  have : dell l i = l.eraseIdx i := (List.eraseIdx_eq_take_drop_succ l i).symm
  rw [this]
  exact List.Pairwise.sublist (List.eraseIdx_sublist _ _) hs
theorem rising_apL {l : List S53} (kd k v : Int) (hs : Rising l) : Rising (apL l kd k v) := by
  unfold apL
  split
  · rename_i h
    exact rising_insl hs h.2
  · split
    · exact rising_dell _ hs
    · exact hs



end Go.Proofs.Ytcleoahoppggmaa.PLinAlone
