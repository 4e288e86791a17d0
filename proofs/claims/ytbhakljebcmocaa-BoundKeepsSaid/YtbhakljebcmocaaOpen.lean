/- How an argument of whatever plain type is opened: from a datum's reading to the print's own kinds ('Kd'). -/
import Derived.Test.YtbhakljebcmocaaK0
import Derived.Deep.Slices
import Derived.OpenShut
import Derived.WideShapes
namespace Go.Proofs.Ytbhakljebcmocaa.Open
open Go.RowKit Go.ChangeShapes Go.WideShapes Go.Proofs.YtbhakljebcmocaaW.PrintWords

/-- Whatever reads as a datum of type t is of kind d, and Q holds of it. -/
def Opens {α : Type} (P : Program) (d : Kd α) (t : TypeId) (Q : α → Prop) : Prop :=
  ∀ {H : Type} {enc : TypeId × Value → H} {w : World} {base : Nat} {spare : Nat → Bool} {held : Bool} {fuel : Nat} {cs : List Value} {x : DataW H × List MemPlace},
    DataW.trod enc P w base spare held fuel t cs = some x → ∃ a, d.K w a cs ∧ Q a

theorem opens_int {P : Program} {t : TypeId} {k : IntKind} (ht : P.underlying t = some (.int k)) : Opens P (Kd.int k) t (fun n => (Lit.int k n).wf = true) := by
  intro H enc w base spare held fuel cs x h
  obtain ⟨n, rfl, _, hw⟩ := DataW.trod_int ht h
  exact ⟨n, rfl, hw⟩
theorem opens_bool {P : Program} {t : TypeId} (ht : P.underlying t = some .bool) : Opens P Kd.bool t (fun _ => True) := by
  intro H enc w base spare held fuel cs x h
  obtain ⟨n, rfl, _⟩ := DataW.trod_bool ht h
  exact ⟨n, rfl, trivial⟩
theorem opens_iso {α β : Type} {P : Program} {d : Kd α} {t : TypeId} {Q : α → Prop} (f : β → α) (g : α → β) (hfg : ∀ a, f (g a) = a) (h : Opens P d t Q) : Opens P (Kd.iso d f) t (fun b => Q (f b)) := by
  intro H enc w base spare held fuel cs x hx
  obtain ⟨a, hk, hq⟩ := h hx
  refine ⟨g a, ?_, ?_⟩
  · show d.K w (f (g a)) cs
    rw [hfg]; exact hk
  · show Q (f (g a))
    rw [hfg]; exact hq
theorem opens_slice {α : Type} {P : Program} {d : Kd α} {t e : TypeId} {Q : α → Prop} (ht : P.underlying t = some (.slice e)) (hs : d.sz = P.cellsOf e) (h : Opens P d e Q) :
    Opens P (Kd.slice e d) t (fun l => ∀ x ∈ l, Q x) := by
  intro H enc w base spare held fuel cs x hx
  rcases Go.Deep.open_slice ht hx with ⟨rfl, _⟩ | ⟨a, len, cap, m, n, D, Pl, rfl, _, hl, hm, hmm, _, hel⟩
  · exact ⟨[], ⟨none, 0, rfl, Nat.le_refl _, rfl, by simp, fun hp => absurd hp (by simp)⟩, fun x hx => by cases hx⟩
  · have hlm : len ≤ m := by rw [hmm]; split <;> omega
    have one : ∀ i, i < len → ∃ y : α, (∃ c, c.length = d.sz ∧ d.K w y c ∧ ∀ j u, c[j]? = some u → w.cell? (a.add (i * d.sz + j)) = some u) ∧ Q y := by
      intro i hi
      obtain ⟨c, h1, h2⟩ := hel i (by omega)
      obtain ⟨y, hk, hq⟩ := h h2
      obtain ⟨_, hcl, hcc⟩ := World.cells?_some h1
      refine ⟨y, ⟨c, by rw [hs]; exact hcl, hk, fun j u hj => ?_⟩, hq⟩
      have hjl : j < P.cellsOf e := by have := (List.getElem?_eq_some_iff.1 hj).1; omega
      have := hcc j hjl
      rw [Go.Deep.add_add] at this
      rw [hs, this, hj]
    have hlist : ∀ k, k ≤ len → ∃ l : List α, l.length = k ∧ ∀ i y, l[i]? = some y → (∃ c, c.length = d.sz ∧ d.K w y c ∧ ∀ j u, c[j]? = some u → w.cell? (a.add (i * d.sz + j)) = some u) ∧ Q y := by
      intro k
      induction k with
      | zero => intro _; exact ⟨[], rfl, fun i y hy => by simp at hy⟩
      | succ k ih =>
        intro hk
        obtain ⟨l, hl1, hl2⟩ := ih (by omega)
        obtain ⟨y, hy⟩ := one k (by omega)
        refine ⟨l ++ [y], by simp [hl1], fun i z hz => ?_⟩
        rcases Nat.lt_or_ge i l.length with hi | hi
        · rw [List.getElem?_append_left hi] at hz
          exact hl2 i z hz
        · have hi' : i = l.length := by
            have := (List.getElem?_eq_some_iff.1 hz).1
            simp at this
            omega
          subst hi'
          simp at hz
          subst hz
          rw [hl1]
          exact hy
    obtain ⟨l, hll, hlr⟩ := hlist len (Nat.le_refl _)
    unfold maxLen at hm
    refine ⟨l, ⟨some a, cap, by rw [hll], by omega, rfl, by omega, fun _ => ⟨a, rfl, fun j p hj => (hlr j p hj).1⟩⟩, fun x hx => ?_⟩
    obtain ⟨i, hi, rfl⟩ := List.getElem_of_mem hx
    exact (hlr i _ (List.getElem?_eq_getElem hi)).2

/-- The cells of some fields, one behind the other. -/
def Fields {H : Type} (enc : TypeId × Value → H) (P : Program) (w : World) (base : Nat) (spare : Nat → Bool) (held : Bool) : List TypeId → List Value → Prop
  | [], cs => cs = []
  | t :: ts, cs => ∃ c0 c1 fuel x, cs = c0 ++ c1 ∧ DataW.trod enc P w base spare held fuel t c0 = some x ∧ Fields enc P w base spare held ts c1
def OpensFs {α : Type} (P : Program) (d : Kd α) (ts : List TypeId) (Q : α → Prop) : Prop :=
  ∀ {H : Type} {enc : TypeId × Value → H} {w : World} {base : Nat} {spare : Nat → Bool} {held : Bool} {cs : List Value}, Fields enc P w base spare held ts cs → ∃ a, d.K w a cs ∧ Q a
theorem opens_one {α : Type} {P : Program} {d : Kd α} {t : TypeId} {Q : α → Prop} (h : Opens P d t Q) : OpensFs P d [t] Q := by
  rintro H enc w base spare held cs ⟨c0, c1, fuel, x, rfl, hx, rfl⟩
  rw [List.append_nil]
  exact h hx
theorem opens_pair {α β : Type} {P : Program} {a : Kd α} {b : Kd β} {t : TypeId} {ts : List TypeId} {Q : α → Prop} {R : β → Prop} (h : Opens P a t Q) (k : OpensFs P b ts R) : OpensFs P (Kd.pair a b) (t :: ts) (fun x => Q x.1 ∧ R x.2) := by
  rintro H enc w base spare held cs ⟨c0, c1, fuel, x, rfl, hx, hf⟩
  obtain ⟨y, hy, hq⟩ := h hx
  obtain ⟨z, hz, hr⟩ := k hf
  exact ⟨(y, z), ⟨c0, c1, rfl, hy, hz⟩, hq, hr⟩
def offsB (P : Program) : Nat → List (TypeId × Nat) → Nat → Bool
  | o, [], m => o == m
  | o, (t, f) :: fs, m => (f == o) && offsB P (o + P.cellsOf t) fs m
theorem fields_of {H : Type} {enc : TypeId × Value → H} {P : Program} {w : World} {base : Nat} {spare : Nat → Bool} {held : Bool} {cs : List Value} {n : Nat} :
    ∀ (fs : List (TypeId × Nat)) (o : Nat), offsB P o fs cs.length = true → (∀ f ∈ fs, ∃ x, DataW.trod enc P w base spare held n f.1 ((cs.drop f.2).take (P.cellsOf f.1)) = some x) → Fields enc P w base spare held (fs.map (·.1)) (cs.drop o)
  | [], o, h, _ => by
    have h' : o = cs.length := by simpa [offsB] using h
    subst h'
    simp [Fields]
  | (t, f) :: fs, o, h, hr => by
    simp only [offsB, Bool.and_eq_true, beq_iff_eq] at h
    obtain ⟨rfl, h⟩ := h
    obtain ⟨x, hx⟩ := hr (t, f) (by simp)
    refine ⟨(cs.drop f).take (P.cellsOf t), cs.drop (f + P.cellsOf t), n, x, ?_, hx, fields_of fs (f + P.cellsOf t) h (fun g hg => hr g (by simp [hg]))⟩
    rw [← List.drop_drop, List.take_append_drop]
theorem opens_struct {α : Type} {P : Program} {d : Kd α} {t : TypeId} {fs : Array Field} {ts : List TypeId} {Q : α → Prop} (ht : P.underlying t = some (.struct fs))
    (ho : offsB P 0 (fs.toList.map fun f => (f.type, f.offset)) (P.cellsOf t) = true) (hts : fs.toList.map (·.type) = ts) (h : OpensFs P d ts Q) : Opens P d t Q := by
  intro H enc w base spare held fuel cs x hx
  obtain ⟨xs, n, rfl, _, hl, hxl, hf⟩ := DataW.trod_struct ht hx
  have := fields_of (enc := enc) (P := P) (w := w) (base := base) (spare := spare) (held := held) (cs := cs) (n := n) (fs.toList.map fun f => (f.type, f.offset)) 0 (by rw [hl]; exact ho) (by
    intro g hg
    obtain ⟨f, hf1, rfl⟩ := List.mem_map.1 hg
    obtain ⟨i, hi, hfi⟩ := List.getElem_of_mem hf1
    have hi' : i < fs.size := by simpa using hi
    have := hf i f (by rw [← hfi]; simp [Array.getElem?_eq_getElem hi'])
    rw [List.getElem?_eq_getElem (by omega)] at this
    exact ⟨_, this⟩)
  rw [List.drop_zero, List.map_map] at this
  exact h (by rw [← hts]; exact this)
theorem opens_array {α : Type} {P : Program} {d : Kd α} {t e : TypeId} {m : Nat} {ts : List TypeId} {Q : α → Prop} (ht : P.underlying t = some (.array m e))
    (ho : offsB P 0 ((List.range m).map fun i => (e, i * P.cellsOf e)) (P.cellsOf t) = true) (hts : (List.range m).map (fun _ => e) = ts) (h : OpensFs P d ts Q) : Opens P d t Q := by
  intro H enc w base spare held fuel cs x hx
  obtain ⟨xs, n, rfl, _, hl, hxl, hf⟩ := DataW.trod_array ht hx
  have := fields_of (enc := enc) (P := P) (w := w) (base := base) (spare := spare) (held := held) (cs := cs) (n := n) ((List.range m).map fun i => (e, i * P.cellsOf e)) 0 (by rw [hl]; exact ho) (by
    intro g hg
    obtain ⟨i, hi, rfl⟩ := List.mem_map.1 hg
    have hi' : i < m := by simpa using hi
    have := hf i hi'
    rw [List.getElem?_eq_getElem (by omega)] at this
    exact ⟨_, this⟩)
  rw [List.drop_zero, List.map_map] at this
  exact h (by rw [← hts]; exact this)
theorem okWide_array {P : Program} {W : World} {r : Reach} {base : Nat} {t e : TypeId} {n : Nat} {v : Value} (ht : P.underlying t = some (.array n e)) (h : Value.okWide P W r base t v) : ∃ cs, v = .agg cs ∧ cs.size = P.cellsOf t := by
  simp only [Value.okWide, ht] at h
  obtain ⟨cs, h1, h2, _⟩ := h
  exact ⟨cs, h1, h2⟩
/-- A struct's or an array's value by its cells. -/
theorem agg_of {cs : Array Value} {l : List Value} (h : (Value.agg cs).cells.toList = l) : (Value.agg cs) = .agg l.toArray := by
  have : cs.toList = l := h
  rw [← this]
end Go.Proofs.Ytbhakljebcmocaa.Open
