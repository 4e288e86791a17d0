/- BoundKeeps (chapter 23): every call keeps to its bound; part 0 of the proof: words, walks by an engine, and plain lemmas, each used by the theorem. -/
import Derived.ArgAppend
import Derived.Below
import Derived.BigQuiet
import Derived.Carry
import Derived.ChangeOld
import Derived.ChangeSlices
import Derived.Deep.AppendLies
import Derived.Deep.CutBlock
import Derived.Deep.DeepCutAuto
import Derived.Deep.Draws
import Derived.Deep.LoopGhost
import Derived.Deep.OwnRows
import Derived.Deep.QuietTactic
import Derived.Deep.RegionHeld3
import Derived.Deep.RegionLaw
import Derived.Deep.Slices
import Derived.KernelRfl
import Derived.Laws.BitsLemmas
import Derived.Laws.BytesArg
import Derived.Laws.IdiomCopy
import Derived.Laws.MakeOwn
import Derived.Laws.OwnMore
import Derived.Laws.Rows
import Derived.Laws.Slices
import Derived.Laws.StructEq
import Derived.Lib.AppendStr
import Derived.Lib.AppendZerosOnto
import Derived.Lib.ConvBytes
import Derived.Lib.Overlaps
import Derived.Maps.AppendAt
import Derived.Maps.OwnOps
import Derived.Maps.OwnSet
import Derived.Maps.Views
import Derived.OpenShut
import Derived.OrdersHeld
import Derived.OwnWalk
import Derived.ProofKit
import Derived.RowKit
import Derived.RowKit3
import Derived.ShutString
import Derived.SizedLaws
import Derived.Tactics
import Derived.Test.YtbhakljebcmocaaProg
import Derived.WalkKit
import Derived.WideKeyArgs2
import Derived.WideLaws
import Derived.WideShapes
set_option linter.unusedVariables false
set_option linter.unusedSimpArgs false
section
set_option linter.unusedVariables false
set_option linter.unusedSimpArgs false
namespace Go.Proofs.YtbhakljebcmocaaW.PrintWords
open Go.RowKit
structure Aside0 (p : Prop) : Prop where mk :: (out : p)
structure Drawn0 (w w' : World) : Prop where mk :: (out : ∃ n, w' = w.drewN n)
theorem Drawn0.refl (w : World) : Drawn0 w w := ⟨⟨0, rfl⟩⟩
theorem Drawn0.step {w w' : World} (h : Drawn0 w w') (n : Nat) : Drawn0 w (w'.drewN n) := by
 obtain ⟨m, rfl⟩ := h
 exact ⟨⟨m + n, World.drewN_drewN ..⟩⟩
theorem Drawn0.below {w w' : World} (h : Drawn0 w w') : Below w.heap.size w w' := by
 obtain ⟨n, rfl⟩ := h
 induction n with
 | zero => exact Below.refl _ _
 | succ n ih => rw [← World.drew_drewN]; exact ih.drew
def rd (xs : List Int) (i : Int) : Int := xs.getD i.toNat 0
theorem below_alloc {w W : World} (h : Below w.heap.size w W) (o : Obj) : Below w.heap.size w (W.alloc o) := h.alloc h.size o
theorem pw_below_drewN {B : Nat} {w W : World} (h : Below B w W) (n : Nat) : Below B w (W.drewN n) := ⟨h.os, h.tape, h.output, h.size, h.block⟩
theorem below_then {B : Nat} {w w1 w2 : World} (h : Below B w w1) (hB : B ≤ w1.heap.size) (k : Below w1.heap.size w1 w2) : Below B w w2 :=
 h.trans ⟨k.os, k.tape, k.output, k.size, fun i hi => k.block i (Nat.lt_of_lt_of_le hi hB)⟩
theorem pw_cell_below {w w1 : World} (h : Below w.heap.size w w1) {a : Addr} {v : Value} (hc : w.cell? a = some v) : w1.cell? a = some v := (h.cell (World.block_lt_of_cell? w a hc)).trans hc
theorem add_plain (g j : Nat) : (⟨g, 0, none⟩ : Addr).add j = ⟨g, j, none⟩ := by unfold Addr.add; split <;> simp_all
theorem own_nil (W : World) (base : Nat) (e : TypeId) (size : Nat) : W.ownsRow base e size (.slice none 0 0) 0 [] := ⟨by simp, .inl ⟨rfl, rfl⟩⟩
theorem own_base {w : World} {base : Nat} {e : TypeId} {size n : Nat} {v : Value} {xs : List Value} (h : w.ownsRow base e size v n xs) (k : Nat) (hk : v.ownBlock = some k) : base ≤ k := by
 rcases h.2 with ⟨rfl, _⟩ | ⟨g, cap, cur, rfl, hb, _⟩
 ·simp [Value.ownBlock] at hk
 ·have : g = k := by simpa [Value.ownBlock] using hk
  omega
theorem own_lt {w : World} {base : Nat} {e : TypeId} {size n : Nat} {v : Value} {xs : List Value} (h : w.ownsRow base e size v n xs) (k : Nat) (hk : v.ownBlock = some k) : k < w.heap.size := by
 rcases h.2 with ⟨rfl, _⟩ | ⟨g, cap, cur, rfl, hb, hh, _⟩
 ·simp [Value.ownBlock] at hk
 ·have : g = k := by simpa [Value.ownBlock] using hk
  subst this
  exact (Array.getElem?_eq_some_iff.1 hh).1
section
variable {P : Program} {ops : Array Oper} {rest : List Oper} {o : Oper} {a : Act} {Q : Exit → Act → World → Prop}
end
section
variable {P : Program}
end
section
variable {P : Program} {ops : Array Oper} {rest : List Oper} {o : Oper} {a : Act} {Q : Exit → Act → World → Prop}
end
def Reps {α : Type} (R : α → List Value → Prop) (size : Nat) (ps : List α) (cs : List Value) : Prop :=
 cs.length = ps.length * size ∧ ∀ j p, ps[j]? = some p → R p ((cs.drop (j * size)).take size)
theorem Reps.none {α : Type} (R : α → List Value → Prop) (size : Nat) : Reps R size [] [] := ⟨by simp, fun j p h => by simp at h⟩
theorem Reps.snoc {α : Type} {R : α → List Value → Prop} {size : Nat} {ps : List α} {cs c : List Value} {p : α} (h : Reps R size ps cs) (hp : R p c) (hc : c.length = size) : Reps R size (ps ++ [p]) (cs ++ c) := by
 refine ⟨by rw [List.length_append, h.1, hc, List.length_append, List.length_singleton, Nat.add_mul, Nat.one_mul], fun j q hq => ?_⟩
 rcases Nat.lt_or_ge j ps.length with hj | hj
 ·rw [List.getElem?_append_left hj] at hq
  have h1 : j * size + size ≤ cs.length := by rw [h.1, ← Nat.succ_mul]; exact Nat.mul_le_mul_right _ hj
  have h2 := h.2 j q hq
  rw [List.drop_append_of_le_length (by omega), List.take_append_of_le_length (by rw [List.length_drop]; omega)]
  exact h2
 ·have hj' : j = ps.length := by
   have := (List.getElem?_eq_some_iff.1 hq).1
   rw [List.length_append, List.length_singleton] at this
   omega
  subst hj'
  have hq' : p = q := by simpa using hq
  subst hq'
  rw [← h.1, List.drop_left, ← hc, List.take_length]
  exact hp
theorem Reps.imp_ {α : Type} {R R' : α → List Value → Prop} {size : Nat} {ps : List α} {cs : List Value} (h : Reps R size ps cs) (hR : ∀ p c, R p c → R' p c) : Reps R' size ps cs := ⟨h.1, fun j p hj => hR _ _ (h.2 j p hj)⟩
def ReadsRow {α : Type} (R : α → List Value → Prop) (size : Nat) (w : World) (A : Option Addr) (n : Nat) (ps : List α) : Prop :=
 ps.length = n ∧ n ≤ 9223372036854775807 ∧ (0 < n → ∃ ad, A = some ad ∧ ∀ j p, ps[j]? = some p → ∃ c, c.length = size ∧ R p c ∧ ∀ i u, c[i]? = some u → w.cell? (ad.add (j * size + i)) = some u)
theorem ReadsRow.get_ {α : Type} {R : α → List Value → Prop} {size : Nat} {w : World} {A : Option Addr} {n : Nat} {ps : List α} (h : ReadsRow R size w A n ps) (d : α) (i : Int) (h0 : 0 ≤ i) (h1 : i < n) :
    ∃ ad c, A = some ad ∧ c.length = size ∧ R (ps.getD i.toNat d) c ∧ ∀ j u, c[j]? = some u → w.cell? (ad.add (i.toNat * size + j)) = some u := by
  obtain ⟨ad, e, hc⟩ := h.2.2 (by omega)
  have hl : i.toNat < ps.length := by have := h.1; omega
  obtain ⟨c, hs, hr, hcell⟩ := hc i.toNat _ (List.getElem?_eq_getElem hl)
  refine ⟨ad, c, e, hs, ?_, hcell⟩
  rw [List.getD_eq_getElem?_getD, List.getElem?_eq_getElem hl]
  exact hr
theorem ReadsRow.imp_ {α : Type} {R R' : α → List Value → Prop} {size : Nat} {w w1 : World} {A : Option Addr} {n : Nat} {ps : List α} (h : ReadsRow R size w A n ps) (hb : Below w.heap.size w w1) (hR : ∀ p c, R p c → R' p c) : ReadsRow R' size w1 A n ps :=
 ⟨h.1, h.2.1, fun hn => by
  obtain ⟨ad, e, hc⟩ := h.2.2 hn
  refine ⟨ad, e, fun j p hj => ?_⟩
  obtain ⟨c, hs, hr, hcell⟩ := hc j p hj
  exact ⟨c, hs, hR _ _ hr, fun i u hu => pw_cell_below hb (hcell i u hu)⟩⟩
theorem own_reads_row {α : Type} {R : α → List Value → Prop} {w : World} {base n size : Nat} {e : TypeId} {v : Value} {ps : List α} {cs : List Value} (h : w.ownsRow base e size v n cs) (hR : Reps R size ps cs) (hn : ps.length = n) :
    ∃ A c, v = .slice A n c ∧ ReadsRow R size w A n ps := by
  rcases Nat.eq_zero_or_pos n with h0 | h0
  · rcases h.2 with ⟨rfl, rfl⟩ | ⟨g, cap, cur, rfl, _⟩
    · exact ⟨none, 0, rfl, hn, by omega, fun hp => absurd hp (by omega)⟩
    · exact ⟨_, cap, rfl, hn, by omega, fun hp => absurd hp (by omega)⟩
  · obtain ⟨g, cap, rfl, _, _⟩ := h.form h0
    have hm : n ≤ 9223372036854775807 := by
      rcases h.2 with ⟨_, h1⟩ | ⟨g', cap', cur, he, _, _, h1, h2, _⟩
      · omega
      · simp only [maxLen] at h2
        omega
    refine ⟨_, cap, rfl, hn, hm, fun _ => ⟨_, rfl, fun j p hj => ⟨(cs.drop (j * size)).take size, ?_, hR.2 j p hj, fun i u hu => ?_⟩⟩⟩
    · have hjl := (List.getElem?_eq_some_iff.1 hj).1
      have h1 : j * size + size ≤ cs.length := by rw [hR.1, ← Nat.succ_mul]; exact Nat.mul_le_mul_right _ hjl
      rw [List.length_take, List.length_drop]
      omega
    · refine h.cells (g := g) rfl _ u ?_
      rw [List.getElem?_take] at hu
      split at hu
      · rw [List.getElem?_drop] at hu
        exact hu
      · cases hu
theorem add_field (ad : Addr) (m j : Nat) (hj : 0 < j) : ad.add (m + j) = ⟨(ad.add m).block, (ad.add m).off + j, none⟩ := by
 unfold Addr.add
 by_cases hm : m = 0
 ·subst hm
  simp [Nat.ne_of_gt hj]
 ·simp [hm, Nat.add_assoc]
section
variable {P : Program} {ops : Array Oper} {rest : List Oper} {o : Oper} {a : Act} {Q : Exit → Act → World → Prop}
theorem print_append_cells {w0 W : World} (base : Nat) (hgd : o.guard = none) (s x : Operand) (t e : TypeId) (z : Value) (size bytes : Nat)
    (ho : o.op = .call { callee := .builtin .append, args := #[s, x], argTypes := #[t, t] })
    (ht : P.underlying t = some (.slice e)) (hinfo : (P.info? e).map (fun i => (i.zero, i.size, i.bytes)) = some (some z, size, bytes)) (hz : z.cells.size = size) (hs0 : 0 < size) (hb0 : 0 < bytes)
    (v : Value) (n : Nat) (xs ys : List Value) (hs : a.eval s = v) (hx : a.eval x = .slice (some ⟨W.heap.size, 0, none⟩) 1 1) (hys : ys.length = size) (h1 : ∀ u ∈ ys, u.oneCell' = true)
    (HO : W.ownsRow base e size v n xs) (HB : Below base w0 W) (hbase : base ≤ W.heap.size) (hl : (n + 1) * bytes ≤ 140737488355328)
    (h : ∀ v1 w1, w1.ownsRow base e size v1 (n + 1) (xs ++ ys) → Below base w0 w1 → W.grownBy w1 v.ownBlock → (v1.ownBlock = v.ownBlock ∨ ∃ b, v1.ownBlock = some b ∧ W.heap.size ≤ b) → wpList P ops Q rest (a.put o.dst v1) w1) :
    wpList P ops Q (o :: rest) a (W.alloc (.cells ys.toArray e)) := by
  obtain ⟨i0, hi, hzz⟩ := Option.map_eq_some_iff.1 hinfo
  simp only [Prod.mk.injEq] at hzz
  obtain ⟨hz0, hz1, hz2⟩ := hzz
  have hlen : n + 1 ≤ 140737488355328 := Nat.le_trans (Nat.le_mul_of_pos_right _ hb0) hl
  refine wpList_append_own_at (W.alloc (.cells ys.toArray e)) hgd s x t ho base e i0 z size bytes ht hi hz0 hz1 hz2 hz hs0 v n xs hs (HO.alloc _) ⟨W.heap.size, 0, none⟩ 1 1 ys hx (by rw [hys]; simp)
    (by simpa using World.news_of_block (cs := ys.toArray) (t := e) (fr := (0, 0)) (heap_alloc_new W (.cells ys.toArray e))) h1 (by simp only [maxLen]; omega) hl (by simp; omega) ?_
  intro v1 w1 hown hg _ hat
  refine h v1 w1 hown ((HB.alloc hbase _).grown hg (by simp; omega) (own_base HO)) (World.grownBy.trans (World.grownBy_alloc W _ _) hg) ?_
  rcases hat with hat | hat
  · exact .inl hat
  · exact .inr ⟨_, hat, by simp⟩
end
theorem blk_set {w : World} {g : Nat} {t : TypeId} {cs : Array Value} (h : w.heap[g]? = some (.cells cs t (0, 0))) (i : Nat) (u : Value) : (w.setCell ⟨g, i, none⟩ u).heap[g]? = some (.cells (cs.setIfInBounds i u) t (0, 0)) := by
 simp [World.setCell, Array.getElem?_modify, h]
theorem blk_lt {w : World} {g : Nat} {o : Obj} (h : w.heap[g]? = some o) : g < w.heap.size := (Array.getElem?_eq_some_iff.1 h).1
theorem blk_cell {w : World} {g : Nat} {t : TypeId} {cs : Array Value} (h : w.heap[g]? = some (.cells cs t (0, 0))) (i : Nat) : w.cell? ⟨g, i, none⟩ = cs[i]? := cell_of_row w g i cs t (0, 0) h
theorem blk_frozen {w : World} {g : Nat} {t : TypeId} {cs : Array Value} (h : w.heap[g]? = some (.cells cs t (0, 0))) (i : Nat) : w.frozen? ⟨g, i, none⟩ = false := by simp [World.frozen?, h]
section
variable {P : Program} {ops : Array Oper} {o : Oper} {a : Act} {Q : Exit → Act → World → Prop} {K : Act → World → Prop}
end
theorem own_weaken {w : World} {base base' : Nat} {e : TypeId} {size n : Nat} {v : Value} {xs : List Value} (h : w.ownsRow base e size v n xs) (hb : base' ≤ base) : w.ownsRow base' e size v n xs := by
 obtain ⟨h1, h2⟩ := h
 refine ⟨h1, ?_⟩
 rcases h2 with h2 | ⟨g, cap, cur, rfl, hg, r⟩
 ·exact .inl h2
 ·exact .inr ⟨g, cap, cur, rfl, Nat.le_trans hb hg, r⟩
section
variable {α : Type} {enc : α → Value} {d : α}
def rdOf (d : α) (xs : List α) (i : Int) : α := xs.getD i.toNat d
def ReadsOf (enc : α → Value) (d : α) (w : World) (A : Option Addr) (n : Nat) (xs : List α) : Prop :=
 xs.length = n ∧ n ≤ 9223372036854775807 ∧ (0 < n → ∃ ad, A = some ad ∧ ∀ j, j < n → w.cell? (ad.add j) = some (enc (xs.getD j d)))
theorem ReadsOf.at_ {w : World} {A : Option Addr} {n : Nat} {xs : List α} (h : ReadsOf enc d w A n xs) (i : Int) (h0 : 0 ≤ i) (h1 : i < n) : ∃ ad, A = some ad ∧ w.cell? (ad.add i.toNat) = some (enc (rdOf d xs i)) := by
 obtain ⟨ad, e, hc⟩ := h.2.2 (by omega)
 exact ⟨ad, e, hc _ (by omega)⟩
end
section
variable {α : Type} {P : Program} {ops : Array Oper} {rest : List Oper} {o : Oper} {a : Act} {Q : Exit → Act → World → Prop}
end
theorem blk_alloc {w : World} {g : Nat} {o : Obj} (h : w.heap[g]? = some o) (o' : Obj) : (w.alloc o').heap[g]? = some o := (Below.heap_alloc w o' g (blk_lt h)).trans h
theorem blk_drew {w : World} {g : Nat} {o : Obj} (h : w.heap[g]? = some o) : w.drew.heap[g]? = some o := h
theorem blk_drewN {w : World} {g : Nat} {o : Obj} (h : w.heap[g]? = some o) (n : Nat) : (w.drewN n).heap[g]? = some o := h
theorem blk_below {w w1 : World} {g : Nat} {o : Obj} (h : w.heap[g]? = some o) (hb : Below w.heap.size w w1) : w1.heap[g]? = some o := (hb.block g (blk_lt h)).trans h
theorem blk_new (w : World) (o : Obj) : (w.alloc o).heap[w.heap.size]? = some o := heap_alloc_new w o
section
variable {P : Program}
end
theorem own_le {w : World} {base n m c size : Nat} {e : TypeId} {A : Option Addr} {xs : List Value} (h : w.ownsRow base e size (.slice A m c) n xs) : m ≤ c := by
 rcases h.2 with ⟨he, _⟩ | ⟨g, cap, cur, he, _, _, hnc, _⟩
 ·injection he with _ h2 h3
  omega
 ·injection he with _ h2 h3
  omega
def OwnRow {α : Type} (R : α → List Value → Prop) (e : TypeId) (size : Nat) (w : World) (base : Nat) (v : Value) (ps : List α) : Prop :=
 ∃ inner, w.ownsRow base e size v ps.length inner ∧ Reps R size ps inner
section
variable {α : Type} {R R' : α → List Value → Prop} {e : TypeId} {size : Nat} {w w1 : World} {base : Nat} {v : Value} {ps : List α}
theorem OwnRow.none_ (R : α → List Value → Prop) (e : TypeId) (size : Nat) (w : World) (base : Nat) : OwnRow R e size w base (.slice none 0 0) [] := ⟨[], own_nil _ _ _ _, Reps.none _ _⟩
theorem OwnRow.imp_ (h : OwnRow R e size w base v ps) (hR : ∀ p c, R p c → R' p c) : OwnRow R' e size w base v ps := by
 obtain ⟨inner, ho, hr⟩ := h
 exact ⟨inner, ho, hr.imp_ hR⟩
theorem OwnRow.reads (h : OwnRow R e size w base v ps) : ∃ A c, v = .slice A ps.length c ∧ ps.length ≤ c ∧ ReadsRow R size w A ps.length ps := by
 obtain ⟨inner, ho, hr⟩ := h
 obtain ⟨A, c, rfl, hrow⟩ := own_reads_row ho hr rfl
 exact ⟨A, c, rfl, own_le ho, hrow⟩
end
section
variable {P : Program} {ops : Array Oper} {rest : List Oper} {o : Oper} {a : Act} {Q : Exit → Act → World → Prop} {α : Type} {R : α → List Value → Prop}
end
section
variable {P : Program} {ops : Array Oper} {o : Oper} {a : Act} {Q : Exit → Act → World → Prop} {K : Act → World → Prop} {α : Type} {R : α → List Value → Prop}
end
theorem ReadsRow.inner_ {α : Type} {R : α → List Value → Prop} {size : Nat} {w : World} {ad : Addr} {n : Nat} {ps : List α} (h : ReadsRow R size w (some ad) n ps) :
    ∃ inner, Reps R size ps inner ∧ ∀ j u, inner[j]? = some u → w.cell? (ad.add j) = some u := by
  have key : ∀ m, m ≤ ps.length → ∃ inner, Reps R size (ps.take m) inner ∧ ∀ j u, inner[j]? = some u → w.cell? (ad.add j) = some u := by
    intro m
    induction m with
    | zero => exact fun _ => ⟨[], Reps.none _ _, fun j u hu => by simp at hu⟩
    | succ m ih =>
      intro hm
      obtain ⟨inner, hr, hc⟩ := ih (by omega)
      obtain ⟨ad', he, hcell⟩ := h.2.2 (by have := h.1; omega)
      injection he with he
      subst he
      obtain ⟨c, hcl, hp, hcc⟩ := hcell m _ (List.getElem?_eq_getElem (show m < ps.length by omega))
      refine ⟨inner ++ c, ?_, fun j u hu => ?_⟩
      · rw [List.take_succ_eq_append_getElem (show m < ps.length by omega)]
        exact hr.snoc hp hcl
      · have hil : inner.length = m * size := by rw [hr.1, List.length_take, Nat.min_eq_left (by omega)]
        rcases Nat.lt_or_ge j inner.length with hj | hj
        · rw [List.getElem?_append_left hj] at hu
          exact hc j u hu
        · rw [List.getElem?_append_right hj] at hu
          have := hcc (j - inner.length) u hu
          rwa [hil, Nat.add_sub_cancel' (by omega)] at this
  obtain ⟨inner, hr, hc⟩ := key ps.length (Nat.le_refl _)
  rw [List.take_length] at hr
  exact ⟨inner, hr, hc⟩
section
variable {α : Type} {P : Program}
end
section
variable {P : Program} {ops : Array Oper} {rest : List Oper} {o : Oper} {a : Act} {Q : Exit → Act → World → Prop}
end
structure Kd (α : Type) where
 sz : Nat
 E : List Nat
 K : World → α → List Value → Prop
 M : World → Nat → (Nat → Prop) → α → List Value → Prop
 K_len : ∀ {w x cs}, K w x cs → cs.length = sz
 K_one : ∀ {w x cs}, K w x cs → ∀ u ∈ cs, u.oneCell' = true
 K_below : ∀ {w w1 : World} {x cs}, Below w.heap.size w w1 → K w x cs → K w1 x cs
 K_of_M : ∀ {w base ok x cs}, M w base ok x cs → K w x cs
 M_mono : ∀ {w base ok ok' x cs}, (∀ k, ok k → ok' k) → M w base ok x cs → M w base ok' x cs
 M_bound : ∀ {w : World} {base ok x cs}, M w base ok x cs → M w base (fun k => ok k ∧ base ≤ k ∧ k < w.heap.size ∧ ∃ q, q ∈ E ∧ ∃ cells, w.heap[k]? = some (.cells cells q (0, 0))) x cs
 M_move : ∀ {w w1 : World} {base ok x cs}, (∀ k, ok k → w1.heap[k]? = w.heap[k]?) → M w base ok x cs → M w1 base ok x cs
 M_lower : ∀ {w base base' ok x cs}, base' ≤ base → M w base ok x cs → M w base' ok x cs
theorem own_move {w w1 : World} {base : Nat} {e : TypeId} {size n : Nat} {v : Value} {xs : List Value} (h : w.ownsRow base e size v n xs) (hm : ∀ k, v.ownBlock = some k → w1.heap[k]? = w.heap[k]?) : w1.ownsRow base e size v n xs := by
 obtain ⟨h1, h2⟩ := h
 refine ⟨h1, ?_⟩
 rcases h2 with h2 | ⟨g, cap, cur, rfl, hg, hh, r⟩
 ·exact .inl h2
 ·exact .inr ⟨g, cap, cur, rfl, hg, (hm g (by simp [Value.ownBlock])).trans hh, r⟩
theorem own_typed {w : World} {base : Nat} {e : TypeId} {size n : Nat} {v : Value} {xs : List Value} (h : w.ownsRow base e size v n xs) (k : Nat) (hk : v.ownBlock = some k) : ∃ cells, w.heap[k]? = some (.cells cells e (0, 0)) := by
 rcases h.2 with ⟨rfl, _⟩ | ⟨g, cap, cur, rfl, hg, hh, r⟩
 ·simp [Value.ownBlock] at hk
 ·have : g = k := by simpa [Value.ownBlock] using hk
  subst this
  exact ⟨cur, hh⟩
namespace Kd
def C {α : Type} (d : Kd α) (w : World) (A : Option Addr) (n : Nat) (xs : List α) : Prop := ReadsRow (d.K w) d.sz w A n xs
def R {α : Type} (d : Kd α) (e : Nat) (w : World) (base : Nat) (ok : Nat → Prop) (v : Value) (xs : List α) : Prop :=
 (∀ k, v.ownBlock = some k → ok k) ∧ OwnRow (d.M w base (fun k => ok k ∧ some k ≠ v.ownBlock)) e d.sz w base v xs
section
variable {α : Type} {d : Kd α} {e : Nat} {w w1 : World} {base : Nat} {ok ok' : Nat → Prop} {v : Value} {xs : List α}
theorem C_below {A : Option Addr} {n : Nat} (h : d.C w A n xs) (hb : Below w.heap.size w w1) : d.C w1 A n xs := ReadsRow.imp_ h hb (fun _ _ hp => d.K_below hb hp)
theorem R_nil (d : Kd α) (e : Nat) (w : World) (base : Nat) (ok : Nat → Prop) : d.R e w base ok (.slice none 0 0) [] := ⟨fun k hk => by simp [Value.ownBlock] at hk, OwnRow.none_ _ _ _ _ _⟩
theorem R_mono (h : d.R e w base ok v xs) (hok : ∀ k, ok k → ok' k) : d.R e w base ok' v xs := ⟨fun k hk => hok k (h.1 k hk), h.2.imp_ (fun _ _ hp => d.M_mono (fun k hk => ⟨hok k hk.1, hk.2⟩) hp)⟩
theorem R_bound (h : d.R e w base ok v xs) : d.R e w base (fun k => ok k ∧ base ≤ k ∧ k < w.heap.size ∧ ∃ q, q ∈ e :: d.E ∧ ∃ cells, w.heap[k]? = some (.cells cells q (0, 0))) v xs := by
 obtain ⟨h0, inner, ho, hr⟩ := h
 refine ⟨fun k hk => ?_, inner, ho, hr.imp_ (fun _ _ hp => d.M_mono (fun k hk => ?_) (d.M_bound hp))⟩
 ·obtain ⟨cells, hc⟩ := own_typed ho k hk
  exact ⟨h0 k hk, own_base ho k hk, own_lt ho k hk, e, List.mem_cons_self, cells, hc⟩
 ·obtain ⟨⟨h1, h2⟩, h3, h4, q, hq, hc⟩ := hk
  exact ⟨⟨h1, h3, h4, q, List.mem_cons_of_mem _ hq, hc⟩, h2⟩
theorem R_move (h : d.R e w base ok v xs) (hm : ∀ k, ok k → w1.heap[k]? = w.heap[k]?) : d.R e w1 base ok v xs := by
 obtain ⟨h0, inner, ho, hr⟩ := h
 exact ⟨h0, inner, own_move ho (fun k hk => hm k (h0 k hk)), hr.imp_ (fun _ _ hp => d.M_move (fun k hk => hm k hk.1) hp)⟩
theorem R_lower {base' : Nat} (h : d.R e w base ok v xs) (hb : base' ≤ base) : d.R e w base' ok v xs := by
 obtain ⟨h0, inner, ho, hr⟩ := h
 exact ⟨h0, inner, own_weaken ho hb, hr.imp_ (fun _ _ hp => d.M_lower hb hp)⟩
theorem R_step (h : d.R e w base ok v xs) (hm : ∀ k, ok k → k < w.heap.size → w1.heap[k]? = w.heap[k]?) : d.R e w1 base ok v xs :=
 R_mono (R_move (R_bound h) (fun k hk => hm k hk.1 hk.2.2.1)) (fun _ hk => hk.1)
theorem M_step {x : α} {cs : List Value} (h : d.M w base ok x cs) (hm : ∀ k, ok k → k < w.heap.size → w1.heap[k]? = w.heap[k]?) : d.M w1 base ok x cs :=
 d.M_mono (fun _ hk => hk.1) (d.M_move (fun k hk => hm k hk.1 hk.2.2.1) (d.M_bound h))
theorem R_below (h : d.R e w base ok v xs) (hb : Below w.heap.size w w1) : d.R e w1 base ok v xs := R_step h (fun k _ hk => hb.block k hk)
theorem M_below {x : α} {cs : List Value} (h : d.M w base ok x cs) (hb : Below w.heap.size w w1) : d.M w1 base ok x cs := M_step h (fun k _ hk => hb.block k hk)
theorem R_reads (h : d.R e w base ok v xs) : ∃ A c, v = .slice A xs.length c ∧ xs.length ≤ c ∧ d.C w A xs.length xs := by
 obtain ⟨A, c, he, hl, hr⟩ := OwnRow.reads h.2
 exact ⟨A, c, he, hl, hr.imp_ (Below.refl _ _) (fun _ _ hp => d.K_of_M hp)⟩
theorem R_slice (h : d.R e w base ok v xs) : ∃ A c, v = .slice A xs.length c := by
 obtain ⟨A, c, he, _⟩ := R_reads h
 exact ⟨A, c, he⟩
theorem R_own (h : d.R e w base ok v xs) : ∃ inner, w.ownsRow base e d.sz v xs.length inner := by
 obtain ⟨_, inner, ho, _⟩ := h
 exact ⟨inner, ho⟩
end
def scalar {α : Type} (enc : α → Value) (h1 : ∀ x, (enc x).oneCell' = true) : Kd α where
 sz := 1
 E := []
 K := fun _ x cs => cs = [enc x]
 M := fun _ _ _ x cs => cs = [enc x]
 K_len := fun h => by rw [h]; rfl
 K_one := fun h u hu => by
  rw [h] at hu
  rw [List.mem_singleton.1 hu]
  exact h1 _
 K_below := fun _ h => h
 K_of_M := fun h => h
 M_mono := fun _ h => h
 M_bound := fun h => h
 M_move := fun _ h => h
 M_lower := fun _ h => h
def int (k : IntKind) : Kd Int := scalar (Value.int k) (fun _ => rfl)
def bool : Kd Bool := scalar Value.bool (fun _ => rfl)
def slice {α : Type} (e : Nat) (d : Kd α) : Kd (List α) where
 sz := 1
 E := e :: d.E
 K := fun w xs cs => ∃ A c, cs = [.slice A xs.length c] ∧ xs.length ≤ c ∧ d.C w A xs.length xs
 M := fun w base ok xs cs => ∃ v, cs = [v] ∧ d.R e w base ok v xs
 K_len := by
  rintro w x cs ⟨A, c, rfl, _⟩
  rfl
 K_one := by
  rintro w x cs ⟨A, c, rfl, _⟩ u hu
  rw [List.mem_singleton.1 hu]
  rfl
 K_below := by
  rintro w w1 x cs hb ⟨A, c, rfl, hl, hr⟩
  exact ⟨A, c, rfl, hl, C_below hr hb⟩
 K_of_M := by
  rintro w base ok x cs ⟨v, rfl, h⟩
  obtain ⟨A, c, rfl, hl, hr⟩ := R_reads h
  exact ⟨A, c, rfl, hl, hr⟩
 M_mono := by
  rintro w base ok ok' x cs hok ⟨v, rfl, h⟩
  exact ⟨v, rfl, R_mono h hok⟩
 M_bound := by
  rintro w base ok x cs ⟨v, rfl, h⟩
  exact ⟨v, rfl, R_bound h⟩
 M_move := by
  rintro w w1 base ok x cs hm ⟨v, rfl, h⟩
  exact ⟨v, rfl, R_move h hm⟩
 M_lower := by
  rintro w base base' ok x cs hb ⟨v, rfl, h⟩
  exact ⟨v, rfl, R_lower h hb⟩
def pair {α β : Type} (a : Kd α) (b : Kd β) : Kd (α × β) where
 sz := a.sz + b.sz
 E := a.E ++ b.E
 K := fun w x cs => ∃ c0 c1, cs = c0 ++ c1 ∧ a.K w x.1 c0 ∧ b.K w x.2 c1
 M := fun w base ok x cs => ∃ c0 c1, cs = c0 ++ c1 ∧ a.M w base ok x.1 c0 ∧ b.M w base ok x.2 c1
 K_len := by
  rintro w x cs ⟨c0, c1, rfl, h0, h1⟩
  rw [List.length_append, a.K_len h0, b.K_len h1]
 K_one := by
  rintro w x cs ⟨c0, c1, rfl, h0, h1⟩ u hu
  rcases List.mem_append.1 hu with hu | hu
  ·exact a.K_one h0 u hu
  ·exact b.K_one h1 u hu
 K_below := by
  rintro w w1 x cs hb ⟨c0, c1, rfl, h0, h1⟩
  exact ⟨c0, c1, rfl, a.K_below hb h0, b.K_below hb h1⟩
 K_of_M := by
  rintro w base ok x cs ⟨c0, c1, rfl, h0, h1⟩
  exact ⟨c0, c1, rfl, a.K_of_M h0, b.K_of_M h1⟩
 M_mono := by
  rintro w base ok ok' x cs hok ⟨c0, c1, rfl, h0, h1⟩
  exact ⟨c0, c1, rfl, a.M_mono hok h0, b.M_mono hok h1⟩
 M_bound := by
  rintro w base ok x cs ⟨c0, c1, rfl, h0, h1⟩
  refine ⟨c0, c1, rfl, a.M_mono ?_ (a.M_bound h0), b.M_mono ?_ (b.M_bound h1)⟩
  ·rintro k ⟨h2, h3, h4, q, hq, hc⟩
   exact ⟨h2, h3, h4, q, List.mem_append_left _ hq, hc⟩
  ·rintro k ⟨h2, h3, h4, q, hq, hc⟩
   exact ⟨h2, h3, h4, q, List.mem_append_right _ hq, hc⟩
 M_move := by
  rintro w w1 base ok x cs hm ⟨c0, c1, rfl, h0, h1⟩
  exact ⟨c0, c1, rfl, a.M_move hm h0, b.M_move hm h1⟩
 M_lower := by
  rintro w base base' ok x cs hb ⟨c0, c1, rfl, h0, h1⟩
  exact ⟨c0, c1, rfl, a.M_lower hb h0, b.M_lower hb h1⟩
def iso {α β : Type} (d : Kd α) (f : β → α) : Kd β where
 sz := d.sz
 E := d.E
 K := fun w x cs => d.K w (f x) cs
 M := fun w base ok x cs => d.M w base ok (f x) cs
 K_len := d.K_len
 K_one := d.K_one
 K_below := d.K_below
 K_of_M := d.K_of_M
 M_mono := d.M_mono
 M_bound := d.M_bound
 M_move := d.M_move
 M_lower := d.M_lower
theorem C_get {α : Type} {d : Kd α} {w : World} {A : Option Addr} {n : Nat} {xs : List α} (h : d.C w A n xs) (z : α) (i : Int) (h0 : 0 ≤ i) (h1 : i < n) :
    ∃ ad c, A = some ad ∧ c.length = d.sz ∧ d.K w (xs.getD i.toNat z) c ∧ ∀ j u, c[j]? = some u → w.cell? (ad.add (i.toNat * d.sz + j)) = some u := ReadsRow.get_ h z i h0 h1
theorem R_appended {α : Type} {d : Kd α} {e base : Nat} {ok okp : Nat → Prop} {W w1 : World} {v v1 : Value} {xs : List α} {p : α} {inner cs : List Value} (h0 : ∀ k, v.ownBlock = some k → ok k) (hr : Reps (d.M W base (fun k => ok k ∧ some k ≠ v.ownBlock)) d.sz xs inner) (hp : d.M W base okp p cs) (hokp : ∀ k, okp k → ok k ∧ some k ≠ v.ownBlock) (hfresh : ∀ k, W.heap.size ≤ k → ok k)
    (hown : w1.ownsRow base e d.sz v1 (xs.length + 1) (inner ++ cs)) (hg : W.grownBy w1 v.ownBlock) (hat : v1.ownBlock = v.ownBlock ∨ ∃ b, v1.ownBlock = some b ∧ W.heap.size ≤ b) : d.R e w1 base ok v1 (xs ++ [p]) := by
  have hne : ∀ k, some k ≠ v.ownBlock → k < W.heap.size → some k ≠ v1.ownBlock := by
    intro k hk hlt
    rcases hat with hat | ⟨b, hb, hle⟩
    · rw [hat]; exact hk
    · rw [hb]
      intro he
      injection he with he
      omega
  have step : ∀ {q : α} {c : List Value} {o : Nat → Prop}, d.M W base o q c → (∀ k, o k → ok k ∧ some k ≠ v.ownBlock) → d.M w1 base (fun k => ok k ∧ some k ≠ v1.ownBlock) q c := by
    intro q c o hq ho
    have h1 := d.M_move (w1 := w1) (fun k hk => hg.block k hk.2.2.1 (ho k hk.1).2) (d.M_bound hq)
    exact d.M_mono (fun k hk => ⟨(ho k hk.1).1, hne k (ho k hk.1).2 hk.2.2.1⟩) h1
  refine ⟨fun k hk => ?_, inner ++ cs, by rw [List.length_append, List.length_singleton]; exact hown, ?_⟩
  · rcases hat with hat | ⟨b, hb, hle⟩
    · exact h0 k (hat ▸ hk)
    · rw [hb] at hk
      injection hk with hk
      exact hfresh k (by omega)
  · exact (hr.imp_ (fun _ _ hq => step hq (fun _ hk => hk))).snoc (step hp hokp) (d.K_len (d.K_of_M hp))
section
variable {P : Program} {ops : Array Oper} {rest : List Oper} {o : Oper} {a : Act} {Q : Exit → Act → World → Prop} {α : Type}
theorem R_append (d : Kd α) {w0 W : World} (base : Nat) (hgd : o.guard = none) (s x : Operand) (t e : TypeId) (z : Value) (bytes : Nat)
    (ho : o.op = .call { callee := .builtin .append, args := #[s, x], argTypes := #[t, t] })
    (ht : P.underlying t = some (.slice e)) (hinfo : (P.info? e).map (fun i => (i.zero, i.size, i.bytes)) = some (some z, d.sz, bytes)) (hz : z.cells.size = d.sz) (hs0 : 0 < d.sz) (hb0 : 0 < bytes)
    (v : Value) (xs : List α) (p : α) (cs : List Value) (ok okp : Nat → Prop) (hs : a.eval s = v) (hx : a.eval x = .slice (some ⟨W.heap.size, 0, none⟩) 1 1) (hp : d.M W base okp p cs) (hokp : ∀ k, okp k → ok k ∧ some k ≠ v.ownBlock) (hfresh : ∀ k, W.heap.size ≤ k → ok k)
    (HO : d.R e W base ok v xs) (HB : Below base w0 W) (hbase : base ≤ W.heap.size) (hl : (xs.length + 1) * bytes ≤ 140737488355328)
    (h : ∀ v1 w1, d.R e w1 base ok v1 (xs ++ [p]) → Below base w0 w1 → W.grownBy w1 v.ownBlock → (v1.ownBlock = v.ownBlock ∨ ∃ b, v1.ownBlock = some b ∧ W.heap.size ≤ b) → wpList P ops Q rest (a.put o.dst v1) w1) :
    wpList P ops Q (o :: rest) a (W.alloc (.cells cs.toArray e)) := by
  obtain ⟨h0, inner, hown, hr⟩ := HO
  refine print_append_cells base hgd s x t e z d.sz bytes ho ht hinfo hz hs0 hb0 v xs.length inner cs hs hx (d.K_len (d.K_of_M hp)) (d.K_one (d.K_of_M hp)) hown HB hbase hl ?_
  intro v1 w1 hown1 hb1 hg1 hat1
  exact h v1 w1 (R_appended h0 hr hp hokp hfresh hown1 hg1 hat1) hb1 hg1 hat1
end
section
variable {P : Program} {ops : Array Oper} {o : Oper} {a : Act} {Q : Exit → Act → World → Prop} {Kc : Act → World → Prop} {α : Type}
end
theorem reads_of_C {α : Type} {enc : α → Value} {d : α} {h1 : ∀ x, (enc x).oneCell' = true} {w : World} {A : Option Addr} {n : Nat} {xs : List α} (h : (scalar enc h1).C w A n xs) : ReadsOf enc d w A n xs := by
 refine ⟨h.1, h.2.1, fun hn => ?_⟩
 obtain ⟨ad, e, hc⟩ := h.2.2 hn
 refine ⟨ad, e, fun j hj => ?_⟩
 have hl : j < xs.length := by have := h.1; omega
 obtain ⟨c, _, hK, hcell⟩ := hc j _ (List.getElem?_eq_getElem hl)
 have hK' : c = [enc xs[j]] := hK
 subst hK'
 have := hcell 0 _ rfl
 simpa [scalar, List.getD_eq_getElem?_getD, List.getElem?_eq_getElem hl] using this
end Kd
namespace Kd
section
end
end Kd
namespace Kd
end Kd
namespace Kd
section
variable {α β : Type} {d : Kd α} {d' : Kd β} {e e' : Nat} {w w1 W : World} {base b b' : Nat} {ok ok' okv oku : Nat → Prop} {v u : Value} {xs : List α} {ys : List β}
theorem R_drewN (h : d.R e w base ok v xs) (m : Nat) : d.R e (w.drewN m) base ok v xs := R_below h (pw_below_drewN (Below.refl _ _) m)
theorem C_nil (d : Kd α) (w : World) : d.C w none ([] : List α).length [] := ⟨rfl, by simp, fun h => absurd h (Nat.lt_irrefl 0)⟩
theorem R_reads' {A : Option Addr} {n c : Nat} (h : d.R e w base ok (.slice A n c) xs) : n = xs.length ∧ n ≤ c ∧ d.C w A xs.length xs := by
 obtain ⟨A', c', he, hl, hr⟩ := R_reads h
 injection he with h1 h2 h3
 subst h1
 exact ⟨h2, by omega, hr⟩
theorem R_lt (h : d.R e w base ok v xs) : ∀ k, v.ownBlock = some k → k < w.heap.size := by
 obtain ⟨inner, ho⟩ := R_own h
 exact own_lt ho
theorem R_base (h : d.R e w base ok v xs) : ∀ k, v.ownBlock = some k → base ≤ k := by
 obtain ⟨inner, ho⟩ := R_own h
 exact own_base ho
theorem R_form (h : d.R e w base ok v xs) (hp : 0 < xs.length) : ∃ g cap, v = .slice (some ⟨g, 0, none⟩) xs.length cap ∧ base ≤ g ∧ g < w.heap.size ∧ ∃ cells, w.heap[g]? = some (.cells cells e (0, 0)) := by
 obtain ⟨inner, ho⟩ := R_own h
 obtain ⟨g, cap, he, hb, hl⟩ := ho.form hp
 obtain ⟨cells, hc⟩ := own_typed ho g (by rw [he]; simp [Value.ownBlock])
 exact ⟨g, cap, he, hb, hl, cells, hc⟩
end
section
variable {w W : World} {A : Option Addr} {n : Nat}
theorem at_int {k : IntKind} {xs : List Int} (h : (Kd.int k).C w A n xs) (i : Int) (h0 : 0 ≤ i) (h1 : i < n) : ∃ ad, A = some ad ∧ w.cell? (ad.add i.toNat) = some (.int k (rd xs i)) :=
 ReadsOf.at_ (reads_of_C (enc := Value.int k) (d := (0 : Int)) (h1 := fun _ => rfl) h) i h0 h1
variable {α : Type} {enc : α → Value} {h1 : ∀ x, (enc x).oneCell' = true} {e base g cap : Nat} {ok : Nat → Prop} {xs : List α}
end
section
variable {P : Program} {ops : Array Oper} {rest : List Oper} {o : Oper} {a : Act} {Q : Exit → Act → World → Prop}
theorem event_run {W w1 : World} {v : Value} (hgd : o.guard = none) (hrun : (execOp a.eval o).run P W = .ok (.value v) w1) (h : wpList P ops Q rest (a.put o.dst v) w1) : wpList P ops Q (o :: rest) a W := by
 refine wpList_plain hgd fun K hK => ?_
 unfold Oper.wp
 rw [hrun]
 exact hK _ _ h
variable {α : Type}
theorem R_lit (d : Kd α) {w0 W : World} (base e : Nat) (hgd : o.guard = none) {N : Tmp} (_hd : o.dst = some N) {xs : List α} {inner : List Value} {ok okp : Nat → Prop}
    (hrun : (execOp a.eval o).run P W = .ok (.value (.slice (some ⟨W.heap.size, 0, none⟩) xs.length xs.length)) (W.alloc (.cells inner.toArray e)))
    (hrep : Reps (d.M W base okp) d.sz xs inner) (hok : ∀ k, okp k → ok k) (hfresh : ok W.heap.size) (HB : Below base w0 W) (hbase : base ≤ W.heap.size) (hm : xs.length ≤ 9223372036854775807)
    (h : ∀ v1 w1, d.R e w1 base ok v1 xs → Below base w0 w1 → W.grownBy w1 none → (∃ b, v1.ownBlock = some b ∧ W.heap.size ≤ b) → wpList P ops Q rest (a.put o.dst v1) w1) : wpList P ops Q (o :: rest) a W := by
  refine event_run hgd hrun (h _ _ ⟨fun k hk => ?_, inner, ?_, ?_⟩ (HB.alloc hbase _) (World.grownBy_alloc W _ none) ⟨W.heap.size, by simp [Value.ownBlock], Nat.le_refl _⟩)
  · have : W.heap.size = k := by simpa [Value.ownBlock] using hk
    subst this
    exact hfresh
  · have h2 := World.ownsRow_lit (base := base) (e := e) (size := d.sz) W inner.toArray xs.length hbase (by simpa [maxLen] using hm) (by simpa using hrep.1)
    simpa using h2
  · refine hrep.imp_ (fun p c hp => d.M_mono (fun k hk => ⟨hok k hk.1, fun he => ?_⟩) (M_below (d.M_bound hp) (below_alloc (Below.refl _ _) _)))
    have h3 : k = W.heap.size := by simpa [Value.ownBlock] using he
    have := hk.2.2.1
    omega
end
end Kd
section
variable {P : Program}
theorem cut_from (t e : TypeId) (kl : IntKind) {i : TypeInfo} (ht : P.underlying t = some (.slice e)) (hi : P.info? e = some i) (size : Nat) (hsz : i.size = size) (A : Option Addr) (n c : Nat) (j : Int) (h0 : 0 ≤ j) (hm : j ≤ n) :
    ∀ W : World, (Instr.slice t (.slice A n c) (some (.int kl j)) none none).run P W = .ok (.slice (if c = j.toNat then A else A.map (·.add (j.toNat * size))) (n - j.toNat) (c - j.toNat)) W := by
  intro W
  have hel : P.elem t = e := by simp [Program.elem, ht]
  have hu : P.underlying t = some (.slice (P.elem t)) := by rw [hel]; exact ht
  rw [run_slice_l W t A n c hu kl j h0 hm, hel]
  simp [sizeOf, typeInfo, hi, hsz, sliced, Result.andThen]
end
section
variable {w w1 : World} {base n size : Nat} {e : TypeId} {v : Value} {xs : List Value}
theorem add_at (g o j : Nat) : (⟨g, o, none⟩ : Addr).add j = ⟨g, o + j, none⟩ := by unfold Addr.add; split <;> simp_all
theorem setCells_far {g : Nat} : ∀ (vs : List Value) (o : Nat) {w : World} (k : Nat), k ≠ g → (w.setCells g o vs).heap[k]? = w.heap[k]?
 | [], _, _, _, _ => rfl
 | v :: r, o, w, k, hk => by
  rw [World.setCells, setCells_far r (o + 1) k hk]
  exact Below.heap_setCell w ⟨g, o, none⟩ v k hk
theorem setCells_same (g : Nat) : ∀ (vs : List Value) (o : Nat) (w : World), (w.setCells g o vs).os = w.os ∧ (w.setCells g o vs).tape = w.tape ∧ (w.setCells g o vs).output = w.output ∧ (w.setCells g o vs).heap.size = w.heap.size
 | [], _, _ => ⟨rfl, rfl, rfl, rfl⟩
 | v :: r, o, w => by
  obtain ⟨h1, h2, h3, h4⟩ := setCells_same g r (o + 1) (w.setCell ⟨g, o, none⟩ v)
  rw [World.setCells]
  exact ⟨h1, h2, h3, by rw [h4]; simp [World.setCell]⟩
theorem setCells_row {g : Nat} {e : TypeId} : ∀ (vs : List Value) (o : Nat) (w : World) (cur : Array Value), w.heap[g]? = some (.cells cur e (0, 0)) → o + vs.length ≤ cur.size →
    ∃ cur', (w.setCells g o vs).heap[g]? = some (.cells cur' e (0, 0)) ∧ cur'.size = cur.size ∧ cur'.toList = cur.toList.take o ++ vs ++ cur.toList.drop (o + vs.length)
  | [], o, w, cur, h, _ => ⟨cur, h, rfl, by simp⟩
  | v :: r, o, w, cur, h, hl => by
    have h2 := blk_set h o v
    simp only [List.length_cons] at hl
    obtain ⟨cur', h3, h4, h5⟩ := setCells_row r (o + 1) (w.setCell ⟨g, o, none⟩ v) _ h2 (by simp; omega)
    refine ⟨cur', h3, by rw [h4]; simp, ?_⟩
    rw [h5, Array.toList_setIfInBounds]
    have ho : o < cur.toList.length := by rw [Array.length_toList]; omega
    rw [List.take_set, List.drop_set_of_lt (by omega)]
    simp only [List.length_cons]
    rw [show o + 1 + r.length = o + (r.length + 1) by omega]
    congr 1
    rw [List.take_succ_eq_append_getElem ho, List.set_append_right _ _ (by rw [List.length_take]; omega)]
    have ho' : o < cur.size := by omega
    simp [Nat.min_eq_left (Nat.le_of_lt ho')]
end
section
variable {P : Program}
end
namespace Kd
section
variable {α : Type} {d : Kd α} {e : Nat} {w w1 W : World} {base : Nat} {ok ok' : Nat → Prop} {v : Value} {xs : List α}
end
section
variable {P : Program} {ops : Array Oper} {rest : List Oper} {o : Oper} {a : Act} {Q' : Exit → Act → World → Prop} {Kc : Act → World → Prop} {α : Type}
end
end Kd
namespace Kd
section
variable {α : Type} {d : Kd α} {e e' : Nat} {w w1 W : World} {base : Nat} {ok : Nat → Prop} {u v : Value} {xs : List α}
theorem R_typed (h : d.R e w base ok v xs) : ∀ k, v.ownBlock = some k → ∃ cells, w.heap[k]? = some (.cells cells e (0, 0)) := by
 obtain ⟨inner, ho⟩ := R_own h
 exact fun k hk => own_typed ho k hk
theorem R_over' (h : d.R e W base ok u xs) (hty : ∀ k, v.ownBlock = some k → ∃ cells, W.heap[k]? = some (.cells cells e' (0, 0))) (ht : ∀ q, q ∈ e :: d.E → q ≠ e') (hg : W.grownBy w1 v.ownBlock) : d.R e w1 base ok u xs := by
 refine R_mono (R_move (R_bound h) (fun k hk => hg.block k hk.2.2.1 (fun he => ?_))) (fun _ hk => hk.1)
 obtain ⟨_, _, _, q, hq, cells, hc⟩ := hk
 obtain ⟨cells', hc'⟩ := hty k he.symm
 rw [hc] at hc'
 injection hc' with hc'
 injection hc' with _ hc'
 exact ht q hq hc'
theorem R_elder' (hu : d.R e W base ok u xs) (hbase : ∀ k, v.ownBlock = some k → W.heap.size ≤ k) (hb : Below W.heap.size W w1) : d.R e w1 base (fun k => ok k ∧ some k ≠ v.ownBlock) u xs :=
 R_mono (R_move (R_bound hu) (fun k hk => hb.block k hk.2.2.1)) (fun k hk => ⟨hk.1, fun he => by have := hbase k he.symm; have := hk.2.2.1; omega⟩)
theorem R_new' (h : d.R e w1 W.heap.size ok v xs) (hlt : ∀ k, u.ownBlock = some k → k < W.heap.size) : d.R e w1 W.heap.size (fun k => ok k ∧ some k ≠ u.ownBlock) v xs :=
 R_mono (R_bound h) (fun k hk => ⟨hk.1, fun he => by have := hlt k he.symm; have := hk.2.1; omega⟩)
end
end Kd
theorem seg_get {α : Type} (a seg : List α) (o : Nat) (h : o + seg.length ≤ a.length) (q : Nat) :
    (a.take o ++ seg ++ a.drop (o + seg.length))[q]? = if q < o then a[q]? else if q < o + seg.length then seg[q - o]? else a[q]? := by
  have hl : (a.take o).length = o := by rw [List.length_take]; omega
  rw [List.append_assoc]
  by_cases h1 : q < o
  · rw [if_pos h1, List.getElem?_append_left (by omega), List.getElem?_take, if_pos h1]
  · rw [if_neg h1, List.getElem?_append_right (by omega), hl]
    by_cases h2 : q < o + seg.length
    · rw [if_pos h2, List.getElem?_append_left (by omega)]
    · rw [if_neg h2, List.getElem?_append_right (by omega), List.getElem?_drop]
      congr 1
      omega
namespace Kd
section
variable {α : Type} {d : Kd α} {e base g n cap : Nat} {ok okp : Nat → Prop} {W : World} {xs : List α}
theorem R_elem (h : d.R e W base ok (.slice (some ⟨g, 0, none⟩) n cap) xs) (z : α) (i : Int) (h0 : 0 ≤ i) (h1 : i < n) :
    ∃ c, c.length = d.sz ∧ d.M W base (fun k => ok k ∧ k ≠ g) (xs.getD i.toNat z) c ∧ (∀ j u, c[j]? = some u → W.cell? ⟨g, i.toNat * d.sz + j, none⟩ = some u) ∧ ∀ j, W.frozen? ⟨g, i.toNat * d.sz + j, none⟩ = false := by
  obtain ⟨hn, hnc, hC⟩ := R_reads' h
  obtain ⟨_, inner, ho, hr⟩ := h
  have hil : i.toNat < xs.length := by omega
  have hseg : i.toNat * d.sz + d.sz ≤ inner.length := by rw [hr.1, ← Nat.succ_mul]; exact Nat.mul_le_mul_right _ hil
  have hM := hr.2 i.toNat _ (List.getElem?_eq_getElem hil)
  refine ⟨(inner.drop (i.toNat * d.sz)).take d.sz, by rw [List.length_take, List.length_drop]; omega, ?_, fun j u hu => ?_, fun j => ?_⟩
  · rw [List.getD_eq_getElem?_getD, List.getElem?_eq_getElem hil]
    exact d.M_mono (fun k hk => ⟨hk.1, fun he => hk.2 (by rw [he]; simp [Value.ownBlock])⟩) hM
  · rw [List.getElem?_take] at hu
    split at hu
    · rw [List.getElem?_drop] at hu
      have := ho.cells (g := g) (by simp [Value.ownBlock]) _ u hu
      rwa [add_plain] at this
    · cases hu
  · obtain ⟨cells, hc⟩ := own_typed ho g (by simp [Value.ownBlock])
    exact blk_frozen hc _
theorem R_seg (h : d.R e W base ok (.slice (some ⟨g, 0, none⟩) n cap) xs) (i : Int) (h0 : 0 ≤ i) (h1 : i < n) {c seg : List Value} {j : Nat} (hcl : c.length = d.sz) (hcc : ∀ j u, c[j]? = some u → W.cell? ⟨g, i.toNat * d.sz + j, none⟩ = some u)
    (hj : j + seg.length ≤ d.sz) {x' : α} (hM : d.M W base okp x' (c.take j ++ seg ++ c.drop (j + seg.length))) (hokp : ∀ k, okp k → ok k ∧ k ≠ g) :
    d.R e (W.setCells g (i.toNat * d.sz + j) seg) base ok (.slice (some ⟨g, 0, none⟩) n cap) (xs.set i.toNat x') ∧ W.grownBy (W.setCells g (i.toNat * d.sz + j) seg) (some g) := by
  obtain ⟨hn, hnc, _⟩ := R_reads' h
  obtain ⟨hok, inner, ho, hr⟩ := h
  have hil : i.toNat < xs.length := by omega
  have hseg : i.toNat * d.sz + d.sz ≤ inner.length := by rw [hr.1, ← Nat.succ_mul]; exact Nat.mul_le_mul_right _ hil
  have hin : inner.length = n * d.sz := by rw [hr.1, hn]
  obtain ⟨ho1, ho2⟩ := ho
  rcases ho2 with ⟨hv, _⟩ | ⟨g', cap', cur, hv, hb, hh, hnc', hcm, hcs, ht⟩
  · cases hv
  injection hv with ha _ hc
  injection ha with ha
  injection ha with hg
  subst hg; subst hc
  have hfit : i.toNat * d.sz + j + seg.length ≤ cur.size := by
    have : n * d.sz ≤ cap * d.sz := Nat.mul_le_mul_right _ hnc
    omega
  obtain ⟨cur', h3, h4, h5⟩ := setCells_row seg (i.toNat * d.sz + j) W cur hh hfit
  obtain ⟨s1, s2, s3, s4⟩ := setCells_same g seg (i.toNat * d.sz + j) W
  have hfar : ∀ k, k ≠ g → (W.setCells g (i.toNat * d.sz + j) seg).heap[k]? = W.heap[k]? := fun k hk => setCells_far seg _ k hk
  -- the element's cells before are what was read
  have hcin : ∀ q, q < d.sz → c[q]? = inner[i.toNat * d.sz + q]? := by
    intro q hq
    have hq' : q < c.length := by omega
    have h6 := hcc q _ (List.getElem?_eq_getElem hq')
    rw [cell_of_row W g _ cur e (0, 0) hh] at h6
    rw [List.getElem?_eq_getElem hq', ← h6, ← ht, List.getElem?_take, if_pos (by rw [← hn]; omega), Array.getElem?_toList]
  refine ⟨⟨hok, inner.take (i.toNat * d.sz + j) ++ seg ++ inner.drop (i.toNat * d.sz + j + seg.length), ⟨?_, .inr ⟨g, cap, cur', by rw [List.length_set, hn], hb, h3, by rw [List.length_set, ← hn]; exact hnc, hcm, by rw [h4, hcs], ?_⟩⟩, ?_⟩,
    ⟨s1, s2, s3, by rw [s4]; exact Nat.le_refl _, fun k _ hk => hfar k (fun he => hk (by rw [he]))⟩⟩
  · rw [List.length_set]
    simp only [List.length_append, List.length_take, List.length_drop]
    rw [hr.1] at hseg ⊢
    omega
  · rw [List.length_set, ← hn]
    apply List.ext_getElem?
    intro q
    rw [List.getElem?_take, h5]
    rw [seg_get cur.toList seg (i.toNat * d.sz + j) (by rw [Array.length_toList]; omega) q, seg_get inner seg (i.toNat * d.sz + j) (by omega) q]
    have hcur : ∀ q, q < n * d.sz → cur.toList[q]? = inner[q]? := by
      intro q hq
      rw [← ht, List.getElem?_take, if_pos (by rw [← hn]; exact hq)]
    by_cases hq : q < n * d.sz
    · rw [if_pos hq, hcur q hq]
    · rw [if_neg hq, if_neg (by omega), if_neg (by omega), List.getElem?_eq_none (by omega)]
  · refine ⟨?_, fun m p hm => ?_⟩
    · rw [List.length_set]
      simp only [List.length_append, List.length_take, List.length_drop]
      rw [hr.1] at hseg ⊢
      omega
    · have hml : m < xs.length := by
        have := (List.getElem?_eq_some_iff.1 hm).1
        rwa [List.length_set] at this
      have hmfit : m * d.sz + d.sz ≤ inner.length := by rw [hr.1, ← Nat.succ_mul]; exact Nat.mul_le_mul_right _ hml
      have hgo : some g = (Value.slice (some ⟨g, 0, none⟩) n cap).ownBlock := by simp [Value.ownBlock]
      by_cases hmi : m = i.toNat
      · subst hmi
        rw [List.getElem?_set_self (by omega)] at hm
        injection hm with hm
        subst hm
        have hcells : ((inner.take (i.toNat * d.sz + j) ++ seg ++ inner.drop (i.toNat * d.sz + j + seg.length)).drop (i.toNat * d.sz)).take d.sz = c.take j ++ seg ++ c.drop (j + seg.length) := by
          apply List.ext_getElem?
          intro q
          rw [List.getElem?_take, List.getElem?_drop, seg_get inner seg _ (by omega), seg_get c seg j (by omega) q]
          by_cases hq : q < d.sz
          · rw [if_pos hq, hcin q hq]
            by_cases hq1 : q < j
            · rw [if_pos (by omega), if_pos hq1]
            · rw [if_neg (by omega), if_neg hq1]
              by_cases hq2 : q < j + seg.length
              · rw [if_pos (by omega), if_pos hq2]
                congr 1
                omega
              · rw [if_neg (by omega), if_neg hq2]
          · rw [if_neg hq, if_neg (by omega), if_neg (by omega), List.getElem?_eq_none (by omega)]
        rw [hcells]
        refine d.M_mono (fun k hk => ?_) (d.M_move (w1 := W.setCells g (i.toNat * d.sz + j) seg) (fun k hk => hfar k (hokp k hk).2) hM)
        exact ⟨(hokp k hk).1, fun he => (hokp k hk).2 (by rw [← hgo] at he; injection he)⟩
      · rw [List.getElem?_set_ne (by omega)] at hm
        have hold := hr.2 m p hm
        have hcells : ((inner.take (i.toNat * d.sz + j) ++ seg ++ inner.drop (i.toNat * d.sz + j + seg.length)).drop (m * d.sz)).take d.sz = (inner.drop (m * d.sz)).take d.sz := by
          apply List.ext_getElem?
          intro q
          rw [List.getElem?_take, List.getElem?_take, List.getElem?_drop, List.getElem?_drop, seg_get inner seg _ (by omega)]
          by_cases hq : q < d.sz
          · rw [if_pos hq, if_pos hq]
            rcases Nat.lt_or_gt_of_ne hmi with hlt | hgt
            · have : m * d.sz + d.sz ≤ i.toNat * d.sz := by rw [← Nat.succ_mul]; exact Nat.mul_le_mul_right _ hlt
              rw [if_pos (by omega)]
            · have : i.toNat * d.sz + d.sz ≤ m * d.sz := by rw [← Nat.succ_mul]; exact Nat.mul_le_mul_right _ hgt
              rw [if_neg (by omega), if_neg (by omega)]
          · rw [if_neg hq, if_neg hq]
        rw [hcells]
        refine d.M_move (fun k hk => hfar k (fun he => hk.2 (by rw [he]; exact hgo))) hold
end
end Kd
namespace Kd
section
end
end Kd
namespace Kd
theorem reps_append {α : Type} {R : α → List Value → Prop} {size : Nat} {ps qs : List α} {cs ds : List Value} (h : Reps R size ps cs) (h' : Reps R size qs ds) : Reps R size (ps ++ qs) (cs ++ ds) := by
 refine ⟨by rw [List.length_append, List.length_append, h.1, h'.1, Nat.add_mul], fun j p hj => ?_⟩
 rcases Nat.lt_or_ge j ps.length with hlt | hge
 ·rw [List.getElem?_append_left hlt] at hj
  have hle : j * size + size ≤ cs.length := by rw [h.1, ← Nat.succ_mul]; exact Nat.mul_le_mul_right _ hlt
  rw [List.drop_append_of_le_length (by omega), List.take_append_of_le_length (by rw [List.length_drop]; omega)]
  exact h.2 j p hj
 ·rw [List.getElem?_append_right hge] at hj
  have h2 := h'.2 (j - ps.length) p hj
  have hle : ps.length * size ≤ j * size := Nat.mul_le_mul_right _ hge
  rw [List.drop_append, List.drop_eq_nil_of_le (by rw [h.1]; exact hle), List.nil_append, h.1, ← Nat.sub_mul]
  exact h2
section
variable {P : Program} {ops : Array Oper} {rest : List Oper} {o : Oper} {a : Act} {Q : Exit → Act → World → Prop} {α : Type}
theorem R_append_rows (d : Kd α) {Rr : α → List Value → Prop} {w0 W : World} (base : Nat) (hgd : o.guard = none) (s x : Operand) (t e : TypeId) (z : Value) (bytes : Nat)
    (ho : o.op = .call { callee := .builtin .append, args := #[s, x], argTypes := #[t, t] })
    (ht : P.underlying t = some (.slice e)) (hinfo : (P.info? e).map (fun i => (i.zero, i.size, i.bytes)) = some (some z, d.sz, bytes)) (hz : z.cells.size = d.sz) (hs0 : 0 < d.sz) (hb0 : 0 < bytes)
    (v : Value) (xs ys : List α) (A : Option Addr) (m c : Nat) (ok okp : Nat → Prop) (hs : a.eval s = v) (hx : a.eval x = .slice A m c)
    (HO : d.R e W base ok v xs) (HR : ReadsRow Rr d.sz W A m ys) (hKM : ∀ x cs, Rr x cs → d.M W base okp x cs) (hokp : ∀ k, okp k → ok k ∧ some k ≠ v.ownBlock) (hfresh : ∀ k, W.heap.size ≤ k → ok k)
    (HB : Below base w0 W) (hbase : base ≤ W.heap.size) (hl : (xs.length + m) * bytes ≤ 140737488355328)
    (h : ∀ v1 w1, d.R e w1 base ok v1 (xs ++ ys) → Below base w0 w1 → W.grownBy w1 v.ownBlock → (v1.ownBlock = v.ownBlock ∨ ∃ b, v1.ownBlock = some b ∧ W.heap.size ≤ b) → wpList P ops Q rest (a.put o.dst v1) w1) :
    wpList P ops Q (o :: rest) a W := by
  obtain ⟨i0, hi, hzz⟩ := Option.map_eq_some_iff.1 hinfo
  simp only [Prod.mk.injEq] at hzz
  obtain ⟨hz0, hz1, hz2⟩ := hzz
  have hm : ys.length = m := HR.1
  have hlen : xs.length + m ≤ 140737488355328 := Nat.le_trans (Nat.le_mul_of_pos_right _ hb0) hl
  obtain ⟨hok, inner, hown, hr⟩ := HO
  have hrun : ∃ v1 w1, (Builtin.append_ #[t, t] o.type #[v, .slice A m c]).run P W = .ok v1 w1 ∧ d.R e w1 base ok v1 (xs ++ ys) ∧ W.grownBy w1 v.ownBlock ∧ (v1.ownBlock = v.ownBlock ∨ ∃ b, v1.ownBlock = some b ∧ W.heap.size ≤ b) := by
    rcases A with _ | ad
    · have h0 : m = 0 := by
        rcases Nat.eq_zero_or_pos m with h0 | h0
        · exact h0
        · obtain ⟨ad, h, _⟩ := HR.2.2 h0
          cases h
      subst h0
      obtain rfl : ys = [] := List.eq_nil_of_length_eq_zero hm
      refine ⟨v, W, ?_, by rw [List.append_nil]; exact ⟨hok, inner, hown, hr⟩, World.grownBy.refl W _, .inl rfl⟩
      rcases hown.2 with ⟨rfl, hn⟩ | ⟨g, cap, cur, rfl, _, _, hnc, _⟩
      · simp [Builtin.append_, run_underlying ht, sizeOf, typeInfo, hi, Builtin.lenOf, Builtin.firstCells]
      · simp [Builtin.append_, run_underlying ht, sizeOf, typeInfo, hi, Builtin.lenOf, Builtin.firstCells, hnc, storeCells]
    · obtain ⟨news, hnr, hnc⟩ := ReadsRow.inner_ HR
      have hnM : Reps (d.M W base okp) d.sz ys news := hnr.imp_ (fun p c hp => hKM p c hp)
      have hone : ∀ u ∈ news, u.oneCell' = true := by
        intro u hu
        obtain ⟨q, hq, rfl⟩ := List.mem_iff_getElem.1 hu
        have hql : q / d.sz < ys.length := by
          rw [Nat.div_lt_iff_lt_mul hs0]
          rw [← hnM.1]
          exact hq
        have hc := hnM.2 (q / d.sz) _ (List.getElem?_eq_getElem hql)
        refine d.K_one (d.K_of_M hc) _ ?_
        rw [List.mem_iff_getElem?]
        refine ⟨q % d.sz, ?_⟩
        rw [List.getElem?_take, if_pos (Nat.mod_lt _ hs0), List.getElem?_drop, Nat.mul_comm, Nat.div_add_mod, List.getElem?_eq_getElem hq]
      obtain ⟨v1, w1, hrun, h2, hg, _, hat⟩ := run_append_own_at (P := P) W base t o.type e i0 z d.sz bytes ht hi hz0 hz1 hz2 hz hs0 v xs.length inner hown ad m c news (by rw [hnM.1, hm]) hnc hone (by simp only [maxLen]; omega) hl hbase
      have hat' : v1.ownBlock = v.ownBlock ∨ ∃ b, v1.ownBlock = some b ∧ W.heap.size ≤ b := by
        rcases hat with hat | hat
        · exact .inl hat
        · exact .inr ⟨_, hat, Nat.le_refl _⟩
      have hne : ∀ k, some k ≠ v.ownBlock → k < W.heap.size → some k ≠ v1.ownBlock := by
        intro k hk hlt
        rcases hat' with hat | ⟨b, hb, hle⟩
        · rw [hat]; exact hk
        · rw [hb]
          intro he
          injection he with he
          omega
      have step : ∀ {q : α} {c : List Value} {o : Nat → Prop}, d.M W base o q c → (∀ k, o k → ok k ∧ some k ≠ v.ownBlock) → d.M w1 base (fun k => ok k ∧ some k ≠ v1.ownBlock) q c := by
        intro q c o hq ho
        have h1 := d.M_move (w1 := w1) (fun k hk => hg.block k hk.2.2.1 (ho k hk.1).2) (d.M_bound hq)
        exact d.M_mono (fun k hk => ⟨(ho k hk.1).1, hne k (ho k hk.1).2 hk.2.2.1⟩) h1
      refine ⟨v1, w1, hrun, ⟨fun k hk => ?_, inner ++ news, by rw [List.length_append, hm]; exact h2, reps_append (hr.imp_ (fun _ _ hq => step hq (fun _ hk => hk))) (hnM.imp_ (fun _ _ hq => step hq hokp))⟩, hg, hat'⟩
      rcases hat' with hat | ⟨b, hb, hle⟩
      · exact hok k (hat ▸ hk)
      · rw [hb] at hk
        injection hk with hk
        exact hfresh k (by omega)
  obtain ⟨v1, w1, hr1, h1, hg, hat⟩ := hrun
  refine wpList_plain hgd fun K hK => ?_
  unfold Oper.wp execOp
  simp only [ho, resolve, invoke, builtin, Sem.run_bind, Sem.run_pure, Result.andThen_ok, List.map_toArray, List.map_cons, List.map_nil, hs, hx, hr1]
  exact hK _ _ (h v1 w1 h1 (HB.grown hg hbase (own_base hown)) hg hat)
end
end Kd
namespace Kd
section
variable {P : Program} {ops : Array Oper} {rest : List Oper} {o : Oper} {a : Act} {Q : Exit → Act → World → Prop} {α : Type}
end
end Kd
theorem add_add (a : Addr) (i j : Nat) : (a.add i).add j = a.add (i + j) := by
 unfold Addr.add
 by_cases h1 : i = 0 <;> by_cases h2 : j = 0 <;> simp [h1, h2, Nat.add_assoc]
namespace Kd
section
variable {α : Type} {k : Kd α} {w : World} {A : Option Addr} {xs : List α} {m c : Nat}
theorem C_drop (h : k.C w A xs.length xs) (hm : m ≤ xs.length) (hc : xs.length ≤ c) : k.C w (if c = m then A else A.map (·.add (m * k.sz))) (xs.drop m).length (xs.drop m) := by
 have hl : (xs.drop m).length = xs.length - m := List.length_drop
 refine ⟨rfl, by rw [hl]; have := h.2.1; omega, fun hp => ?_⟩
 rw [hl] at hp
 obtain ⟨ad, rfl, hcell⟩ := h.2.2 (by omega)
 rw [if_neg (by omega)]
 refine ⟨ad.add (m * k.sz), rfl, fun j p hj => ?_⟩
 rw [List.getElem?_drop] at hj
 obtain ⟨cs, h1, h2, h3⟩ := hcell (m + j) p hj
 refine ⟨cs, h1, h2, fun i u hu => ?_⟩
 rw [add_add, show m * k.sz + (j * k.sz + i) = (m + j) * k.sz + i by rw [Nat.add_mul]; omega]
 exact h3 i u hu
end
end Kd
section
variable {P : Program}
end
theorem below_size {w W : World} (h : Below w.heap.size w W) : w.heap.size ≤ W.heap.size := h.size
theorem below_step {w W w2 : World} (h : Below w.heap.size w W) (k : Below W.heap.size W w2) : Below w.heap.size w w2 := below_then h h.size k
theorem below_set {w W : World} {g j : Nat} {v : Value} (h : Below w.heap.size w W) (hg : w.heap.size ≤ g) : Below w.heap.size w (W.setCell ⟨g, j, none⟩ v) := h.setCell hg _
theorem add_block (a : Addr) (i : Nat) : (a.add i).block = a.block := by unfold Addr.add; split <;> rfl
theorem below_drew1 {base : Nat} {w W : World} (h : Below base w W) : Below base w W.drew := h.drew
namespace Kd
section
variable {α β : Type} {d : Kd α} {d' : Kd β} {e e' base base' n : Nat} {ok ok' : Nat → Prop} {w W w1 W1 : World} {v u : Value} {xs : List α} {ys : List β} {A : Option Addr} {c : Nat}
end
section
variable {α : Type} {enc : α → Value} {h1 : ∀ x, (enc x).oneCell' = true} {w W : World} {A : Option Addr} {n g : Nat} {xs : List α}
end
end Kd
namespace Kd
section
variable {α : Type} {d : Kd α} {e base g : Nat} {ok : Nat → Prop} {w w1 : World} {v : Value} {xs : List α} {o : Obj}
end
end Kd
section
variable {P : Program} {ops : Array Oper} {rest : List Oper} {o : Oper} {a : Act} {Q : Exit → Act → World → Prop}
theorem box_event {W : World} (hgd : o.guard = none) {N : Tmp} (_hd : o.dst = some N) {cs : Array Value} {t : TypeId}
    (hrun : (execOp a.eval o).run P W = .ok (.value (.pointer (some ⟨W.heap.size, 0, none⟩))) (W.alloc (.cells cs t (0, 0))))
    (h : ∀ g, g = W.heap.size → ∀ w1, w1.heap[g]? = some (.cells cs t (0, 0)) → Below W.heap.size W w1 → wpList P ops Q rest (a.put o.dst (.pointer (some ⟨g, 0, none⟩))) w1) : wpList P ops Q (o :: rest) a W :=
  Kd.event_run hgd hrun (h _ rfl _ (blk_new W _) (below_alloc (Below.refl _ _) _))
end
namespace Kd
section
variable {α : Type} {enc : α → Value} {h1 : ∀ x, (enc x).oneCell' = true} {e base g n cap : Nat} {ok : Nat → Prop} {W : World} {xs : List α}
end
end Kd
section
variable {P : Program} {ops : Array Oper} {rest : List Oper} {o : Oper} {a : Act} {Q : Exit → Act → World → Prop}
theorem store_event {W w1 : World} (hgd : o.guard = none) {t : TypeId} {p : Tmp} {v : Operand} (_ho : o.op = .store t (.tmp p) v) (hN : o.dst = none)
    (hrun : (execOp a.eval o).run P W = .ok .skip w1) (h : ∀ w', w' = w1 → wpList P ops Q rest a w') : wpList P ops Q (o :: rest) a W := by
  refine wpList_plain hgd fun K hK => ?_
  unfold Oper.wp
  rw [hrun]
  show K (a.put o.dst undef) w1
  rw [hN]
  exact hK _ _ (h _ rfl)
end
namespace Kd
section
variable {α : Type} {enc : α → Value} {h1 : ∀ x, (enc x).oneCell' = true} {e base g n cap : Nat} {ok : Nat → Prop} {W : World} {xs : List α}
end
end Kd
section
variable {P : Program} {ops : Array Oper} {rest : List Oper} {o : Oper} {a : Act} {Q : Exit → Act → World → Prop} {W : World}
theorem gate_dst {N : Tmp} (_hN : o.dst = some N) (h : wpList P ops Q (o :: rest) a W) : wpList P ops Q (o :: rest) a W := h
theorem gate_store {t : TypeId} {p : Tmp} {v : Operand} (_ho : o.op = .store t (.tmp p) v) (h : wpList P ops Q (o :: rest) a W) : wpList P ops Q (o :: rest) a W := h
end
section
variable {P : Program} {ops : Array Oper} {o : Oper} {a : Act} {Q : Exit → Act → World → Prop} {Kc : Act → World → Prop}
theorem event_step {W w1 : World} {v : Value} (hw : Region.wanted o (yielded ops a.tmps) = true) (hrun : (execOp a.eval o).run P W = .ok (.value v) w1) (h : Kc (a.put o.dst v) w1) : if Region.wanted o (yielded ops a.tmps) = true then Oper.wp P o a W Kc Q else Kc (a.put o.dst undef) W := by
 rw [if_pos hw]
 unfold Oper.wp
 rw [hrun]
 exact h
namespace Kd
variable {α : Type}
theorem R_lit_step (d : Kd α) {w0 W : World} (base e : Nat) (hw : Region.wanted o (yielded ops a.tmps) = true) {N : Tmp} (_hd : o.dst = some N) {xs : List α} {inner : List Value} {ok okp : Nat → Prop}
    (hrun : (execOp a.eval o).run P W = .ok (.value (.slice (some ⟨W.heap.size, 0, none⟩) xs.length xs.length)) (W.alloc (.cells inner.toArray e)))
    (hrep : Reps (d.M W base okp) d.sz xs inner) (hok : ∀ k, okp k → ok k) (hfresh : ok W.heap.size) (HB : Below base w0 W) (hbase : base ≤ W.heap.size) (hm : xs.length ≤ 9223372036854775807)
    (h : ∀ v1 w1, d.R e w1 base ok v1 xs → Below base w0 w1 → W.grownBy w1 none → (∃ b, v1.ownBlock = some b ∧ W.heap.size ≤ b) → Kc (a.put o.dst v1) w1) : if Region.wanted o (yielded ops a.tmps) = true then Oper.wp P o a W Kc Q else Kc (a.put o.dst undef) W := by
  refine event_step hw hrun (h _ _ ⟨fun k hk => ?_, inner, ?_, ?_⟩ (HB.alloc hbase _) (World.grownBy_alloc W _ none) ⟨W.heap.size, by simp [Value.ownBlock], Nat.le_refl _⟩)
  · have : W.heap.size = k := by simpa [Value.ownBlock] using hk
    subst this
    exact hfresh
  · have h2 := World.ownsRow_lit (base := base) (e := e) (size := d.sz) W inner.toArray xs.length hbase (by simpa [maxLen] using hm) (by simpa using hrep.1)
    simpa using h2
  · refine hrep.imp_ (fun p c hp => d.M_mono (fun k hk => ⟨hok k hk.1, fun he => ?_⟩) (M_below (d.M_bound hp) (below_alloc (Below.refl _ _) _)))
    have h3 : k = W.heap.size := by simpa [Value.ownBlock] using he
    have := hk.2.2.1
    omega
end Kd
end
section
variable {P : Program} {tmps : Array Value} {w : World}
end
namespace Kd
section
variable {P : Program} {α : Type}
end
section
variable {P : Program} {ops : Array Oper} {rest : List Oper} {o : Oper} {a : Act} {Q : Exit → Act → World → Prop} {Kc : Act → World → Prop} {α : Type}
end
end Kd
end Go.Proofs.YtbhakljebcmocaaW.PrintWords
end
section
namespace Go.Proofs.YtbhakljebcmocaaW.PrintLast
section
variable {P : Program} {ops : Array Oper} {Q : Exit → Act → World → Prop} {md : Region.Mode} {S : World → Prop} {ds : List Nat}
def Region.reachB (md : Region.Mode) (ops : Array Oper) (i : Nat) : Nat → Nat → Bool
 | 0, _ => false
 | fuel + 1, d => match ops[d]? with
  | some o => o.after.any fun e => Region.binds md e && (e.on == i || Region.reachB md ops i fuel e.on)
  | none => false
def Region.closedB (md : Region.Mode) (ops : Array Oper) (listed : Array Bool) : Bool :=
 (List.range ops.size).all fun j => !listed.getD j false || match ops[j]? with
  | some o => o.after.all fun e => !Region.binds md e || listed.getD e.on false
  | none => true
def Region.lastB (md : Region.Mode) (ops : Array Oper) (listed : Array Bool) (ds : List Nat) (i : Nat) : Bool :=
 ds.all fun d => listed.getD d true || Region.reachB md ops i ops.size d
def ListedClosed (md : Region.Mode) (ops : Array Oper) (listed : Array Bool) : Prop :=
 ∀ j oj, ops[j]? = some oj → listed.getD j false = true → ∀ e ∈ oj.after, Region.binds md e = true → listed.getD e.on false = true
theorem Region.closedB_spec {listed : Array Bool} (h : Region.closedB md ops listed = true) : ListedClosed md ops listed := by
 intro j oj hj hl e he hb
 have hlt : j < ops.size := (Array.getElem?_eq_some_iff.1 hj).1
 have h1 := List.all_eq_true.1 h j (List.mem_range.2 hlt)
 simp only [hl, hj, Bool.not_true, Bool.false_or] at h1
 have h2 := Array.all_eq_true_iff_forall_mem.1 h1 e he
 simpa [hb] using h2
theorem ListedClosed.set {listed : Array Bool} {i : Nat} (h : ListedClosed md ops listed) (hi : i ∈ Region.ready md ops listed) : ListedClosed md ops (listed.setIfInBounds i true) := by
 obtain ⟨_, oi, hoi, hall⟩ := mem_ready.1 hi
 intro j oj hj hl e he hb
 by_cases hij : i = j
 ·subst hij
  have : oj = oi := Option.some.inj (hj.symm.trans hoi)
  subst this
  exact getD_set_true (hall e he hb)
 ·rw [getD_set_ne false hij] at hl
  exact getD_set_true (h j oj hj hl e he hb)
theorem Region.reach_listed {listed : Array Bool} {i : Nat} (hc : ListedClosed md ops listed) : ∀ (fuel d : Nat), Region.reachB md ops i fuel d = true → listed.getD d false = true → listed.getD i false = true
 | 0, _, h, _ => by simp [Region.reachB] at h
 | fuel + 1, d, h, hl => by
  unfold Region.reachB at h
  cases ho : ops[d]? with
  | none => rw [ho] at h; simp at h
  | some o =>
   rw [ho] at h
   obtain ⟨e, he, h1⟩ := Array.any_eq_true'.1 h
   simp only [Bool.and_eq_true, Bool.or_eq_true, beq_iff_eq] at h1
   have hle := hc d o ho hl e he h1.1
   rcases h1.2 with h2 | h2
   ·rw [← h2]; exact hle
   ·exact Region.reach_listed hc fuel e.on h2 hle
theorem Region.reach_not_ready {listed : Array Bool} {i d fuel : Nat} (hc : ListedClosed md ops listed) (hr : Region.reachB md ops i fuel d = true) (hun : listed.getD i true = false) : d ∉ Region.ready md ops listed := by
 intro hd
 obtain ⟨_, o, ho, hall⟩ := mem_ready.1 hd
 have hi : listed.getD i false = true := by
  cases fuel with
  | zero => simp [Region.reachB] at hr
  | succ n =>
   unfold Region.reachB at hr
   rw [ho] at hr
   obtain ⟨e, he, h1⟩ := Array.any_eq_true'.1 hr
   simp only [Bool.and_eq_true, Bool.or_eq_true, beq_iff_eq] at h1
   have hle := hall e he h1.1
   rcases h1.2 with h2 | h2
   ·rw [← h2]; exact hle
   ·exact Region.reach_listed hc n e.on h2 hle
 rcases Nat.lt_or_ge i listed.size with h' | h'
 ·simp [h'] at hun hi
  rw [hun] at hi
  cases hi
 ·simp [Array.getElem?_eq_none h'] at hun
def wpAnyLast (P : Program) (md : Region.Mode) (ops : Array Oper) (Q : Exit → Act → World → Prop) (S : World → Prop) (ds : List Nat) : Nat → Array Bool → Act → World → Prop
 | 0, listed, a, w => Region.ready md ops listed = [] ∧ Q .normal a w
 | fuel + 1, listed, a, w =>
  (Region.ready md ops listed = [] → Q .normal a w) ∧
  ∀ i ∈ Region.ready md ops listed, wpOp P ops Q i (fun a' w' => (i ∉ ds → S w → S w') ∧ wpAnyLast P md ops Q S ds fuel (listed.setIfInBounds i true) a' w') a w
theorem wpAny_of_last : ∀ (fuel : Nat) (listed : Array Bool) (a : Act) (w : World), wpAnyLast P md ops Q S ds fuel listed a w → wpAny P md ops Q fuel listed a w
 | 0, _, _, _, h => h
 | fuel + 1, _, _, _, h => ⟨h.1, fun i hi => wpOp_mono (fun a' w' h' => wpAny_of_last fuel _ a' w' h'.2) (h.2 i hi)⟩
theorem wpAnyLast_first {i : Nat} {oi : Oper} {v : Value} (hi : ops[i]? = some oi) (hsel : ∀ (j : Nat) (o : Oper) cs b, ops[j]? = some o → o.op ≠ .select cs b)
    (hQ : ∀ c a w, Q (.panic c) (a.put oi.dst v) w → Q (.panic c) a w) (n : Nat) :
    ∀ (fuel : Nat) (listed : Array Bool) (a : Act) (w : World),
      (∀ j oj, ops[j]? = some oj → j ≠ i → listed.getD j true = false → (∀ e ∈ oj.after, Region.binds md e = true → e.on ≠ i) → oi.apart ops oj = true) →
      ListedClosed md ops listed → (∀ d ∈ ds, listed.getD d true = false → Region.reachB md ops i n d = true) →
      i ∈ Region.ready md ops listed → YieldsIf P ops S oi v a → S w →
      wpAnyLast P md ops Q S ds fuel (listed.setIfInBounds i true) (a.put oi.dst v) w → wpAnyLast P md ops Q S ds (fuel + 1) listed a w := by
  intro fuel
  induction fuel with
  | zero =>
    intro listed a w _ _ _ hr hy hS H
    refine ⟨fun h => (by rw [h] at hr; cases hr), fun j hj => ?_⟩
    by_cases hji : j = i
    · subst hji; exact hy.wpOp hi hS ⟨fun _ h => h, H⟩
    · have := ready_mono hj hji
      rw [H.1] at this
      cases this
  | succ fuel ih =>
    intro listed a w hfree hc hd hr hy hS H
    refine ⟨fun h => (by rw [h] at hr; cases hr), fun j hj => ?_⟩
    by_cases hji : j = i
    · subst hji; exact hy.wpOp hi hS ⟨fun _ h => h, H⟩
    · have h1 := H.2 j (ready_mono hj hji)
      obtain ⟨hjun, oj, hoj, hall⟩ := mem_ready.1 hj
      have hiun := (mem_ready.1 hr).1
      have hnot : ∀ e ∈ oj.after, Region.binds md e = true → e.on ≠ i := fun e he hb heq => by
        have h1 := hall e he hb
        rw [heq] at h1
        rcases Nat.lt_or_ge i listed.size with h' | h'
        · simp [h'] at hiun h1; rw [hiun] at h1; cases h1
        · simp [Array.getElem?_eq_none h'] at h1
      have hjd : j ∉ ds := fun hm => Region.reach_not_ready hc (hd j hm hjun) hiun hj
      have h2 := wpOp_putIf hoj (hfree j oj hoj hji hjun hnot) (fun cs b => hsel i oi cs b hi) (fun cs b => hsel j oj cs b hoj) hQ hy h1
      have hfree' : ∀ k ok, ops[k]? = some ok → k ≠ i → (listed.setIfInBounds j true).getD k true = false →
          (∀ e ∈ ok.after, Region.binds md e = true → e.on ≠ i) → oi.apart ops ok = true := fun k ok hk hki hun hno => by
        refine hfree k ok hk hki ?_ hno
        by_cases hjk : j = k
        · subst hjk; exact hjun
        · rw [getD_set_ne true hjk] at hun; exact hun
      have hd' : ∀ d ∈ ds, (listed.setIfInBounds j true).getD d true = false → Region.reachB md ops i n d = true := fun d hm hun => by
        refine hd d hm ?_
        by_cases hjk : j = d
        · subst hjk; exact hjun
        · rw [getD_set_ne true hjk] at hun; exact hun
      refine wpOp_mono (fun a' w' h3 => ⟨h3.2.1, ih (listed.setIfInBounds j true) a' w' hfree' (hc.set hj) hd' (ready_mono hr (Ne.symm hji)) h3.1 (h3.2.1 hjd hS) ?_⟩) h2
      rw [Array.setIfInBounds_comm _ _ hji]
      exact h3.2.2
theorem wpAnyLast_any {i : Nat} {oi : Oper} {v : Value} (hi : ops[i]? = some oi) (hsel : ∀ (j : Nat) (o : Oper) cs b, ops[j]? = some o → o.op ≠ .select cs b)
    (hQ : ∀ c a w, Q (.panic c) (a.put oi.dst v) w → Q (.panic c) a w) :
    ∀ (fuel : Nat) (listed : Array Bool) (a : Act) (w : World),
      (∀ j oj, ops[j]? = some oj → j ≠ i → listed.getD j true = false → (∀ e ∈ oj.after, Region.binds md e = true → e.on ≠ i) → oi.apart ops oj = true) →
      i ∈ Region.ready md ops listed → Yields P ops oi v a →
      wpAnyLast P md ops Q S ds fuel (listed.setIfInBounds i true) (a.put oi.dst v) w → wpAnyLast P md ops Q S ds (fuel + 1) listed a w := by
  intro fuel
  induction fuel with
  | zero =>
    intro listed a w _ hr hy H
    refine ⟨fun h => (by rw [h] at hr; cases hr), fun j hj => ?_⟩
    by_cases hji : j = i
    · subst hji; exact (hy.yieldsIf (S := fun _ => True)).wpOp hi trivial ⟨fun _ h => h, H⟩
    · have := ready_mono hj hji
      rw [H.1] at this
      cases this
  | succ fuel ih =>
    intro listed a w hfree hr hy H
    refine ⟨fun h => (by rw [h] at hr; cases hr), fun j hj => ?_⟩
    by_cases hji : j = i
    · subst hji; exact (hy.yieldsIf (S := fun _ => True)).wpOp hi trivial ⟨fun _ h => h, H⟩
    · have h1 := H.2 j (ready_mono hj hji)
      obtain ⟨hjun, oj, hoj, hall⟩ := mem_ready.1 hj
      have hiun := (mem_ready.1 hr).1
      have hnot : ∀ e ∈ oj.after, Region.binds md e = true → e.on ≠ i := fun e he hb heq => by
        have h1 := hall e he hb
        rw [heq] at h1
        rcases Nat.lt_or_ge i listed.size with h' | h'
        · simp [h'] at hiun h1; rw [hiun] at h1; cases h1
        · simp [Array.getElem?_eq_none h'] at h1
      have h2 := wpOp_put hoj (hfree j oj hoj hji hjun hnot) (fun cs b => hsel i oi cs b hi) (fun cs b => hsel j oj cs b hoj) hQ hy h1
      have hfree' : ∀ k ok, ops[k]? = some ok → k ≠ i → (listed.setIfInBounds j true).getD k true = false →
          (∀ e ∈ ok.after, Region.binds md e = true → e.on ≠ i) → oi.apart ops ok = true := fun k ok hk hki hun hno => by
        refine hfree k ok hk hki ?_ hno
        by_cases hjk : j = k
        · subst hjk; exact hjun
        · rw [getD_set_ne true hjk] at hun; exact hun
      refine wpOp_mono (fun a' w' h3 => ⟨h3.2.1, ih (listed.setIfInBounds j true) a' w' hfree' (ready_mono hr (Ne.symm hji)) h3.1 ?_⟩) h2
      rw [Array.setIfInBounds_comm _ _ hji]
      exact h3.2.2
theorem wpAnyLast_take {i : Nat} {oi : Oper} {v : Value} {fuel : Nat} {listed : Array Bool} {a : Act} {w : World} (hi : ops[i]? = some oi)
    (hs : Region.noSelect ops = true) (hf : Region.free md ops listed i = true) (hr : (Region.ready md ops listed).contains i = true)
    (hc : Region.closedB md ops listed = true) (hl : Region.lastB md ops listed ds i = true)
    (hQ : ∀ c a w, Q (.panic c) (a.put oi.dst v) w → Q (.panic c) a w) (hy : YieldsIf P ops S oi v a) (hS : S w)
    (h : wpAnyLast P md ops Q S ds fuel (listed.setIfInBounds i true) (a.put oi.dst v) w) : wpAnyLast P md ops Q S ds (fuel + 1) listed a w :=
  wpAnyLast_first hi (Region.noSelect_spec hs) hQ ops.size fuel listed a w (Region.free_spec hi hf) (Region.closedB_spec hc)
    (fun d hm hun => by have := List.all_eq_true.1 hl d hm; rw [hun] at this; simpa using this) (by simpa using hr) hy hS h
theorem wpAnyLast_all {rs : List Nat} {fuel : Nat} {listed : Array Bool} {a : Act} {w : World} (hr : Region.ready md ops listed = rs) (hne : rs ≠ [])
    (h : ∀ i ∈ rs, wpOp P ops Q i (fun a' w' => (i ∉ ds → S w → S w') ∧ wpAnyLast P md ops Q S ds fuel (listed.setIfInBounds i true) a' w') a w) : wpAnyLast P md ops Q S ds (fuel + 1) listed a w :=
  ⟨fun h0 => absurd (hr ▸ h0) hne, hr ▸ h⟩
theorem wpAnyLast_done {listed : Array Bool} {a : Act} {w : World} (hr : Region.ready md ops listed = []) (h : Q .normal a w) :
    ∀ fuel, wpAnyLast P md ops Q S ds fuel listed a w
  | 0 => ⟨hr, h⟩
  | _ + 1 => ⟨fun _ => h, by rw [hr]; simp⟩
theorem wp_region_last {id : Nat} {a : Act} {w : World} (hm : P.follows .mixedOrders = true)
    (h : wpAnyLast P .any ops Q S ds ops.size (Array.replicate ops.size false) a { w with drawn := w.drawn + 1 }) : (Code.region id ops true).wp P Q a w :=
  wp_region_any hm (wpAny_of_last _ _ _ _ h)
end
section
variable {P : Program} {ops : Array Oper} {Q : Exit → Act → World → Prop} {md : Region.Mode} {S : World → Prop} {ds : List Nat}
def AllReadyL (P : Program) (md : Region.Mode) (ops : Array Oper) (Q : Exit → Act → World → Prop) (S : World → Prop) (ds : List Nat) (fuel : Nat) (listed : Array Bool) (a : Act) (w : World) (rs : List Nat) : Prop :=
 ∀ i ∈ rs, wpOp P ops Q i (fun a' w' => (i ∉ ds → S w → S w') ∧ wpAnyLast P md ops Q S ds fuel (listed.setIfInBounds i true) a' w') a w
theorem AllReadyL.nil {fuel : Nat} {listed : Array Bool} {a : Act} {w : World} : AllReadyL P md ops Q S ds fuel listed a w [] := fun _ h => by cases h
theorem AllReadyL.cons {fuel : Nat} {listed : Array Bool} {a : Act} {w : World} {i : Nat} {o : Oper} {rs : List Nat} (ho : ops[i]? = some o) (hd : i ∉ ds)
    (h : ∀ K' : Act → World → Prop, Shut (∀ a w, S w → (S w → wpAnyLast P md ops Q S ds fuel (listed.setIfInBounds i true) a w) → K' a w) → if Region.wanted o (yielded ops a.tmps) = true then Oper.wp P o a w K' Q else K' (a.put o.dst undef) w)
    (hs : AllReadyL P md ops Q S ds fuel listed a w rs) : AllReadyL P md ops Q S ds fuel listed a w (i :: rs) := fun j hj => by
  rcases List.mem_cons.1 hj with rfl | hj
  · exact wpOp_step ho (fun K' hK => h K' (fun a w hS hW => hK a w ⟨fun _ _ => hS, hW hS⟩))
  · exact hs j hj
theorem wpAnyLast_ready {rs : List Nat} {fuel : Nat} {listed : Array Bool} {a : Act} {w : World} (hr : Region.ready md ops listed = rs) (hne : rs ≠ [])
    (h : AllReadyL P md ops Q S ds fuel listed a w rs) : wpAnyLast P md ops Q S ds (fuel + 1) listed a w := wpAnyLast_all hr hne h
theorem start_ {id n : Nat} {a : Act} {w : World} (l : Array Bool) (hm : P.follows .mixedOrders = true) (hn : ops.size = n) (hl : Array.replicate n false = l) (hS : S w.drew)
    (h : S w.drew → wpAnyLast P .any ops Q S ds n l a w.drew) : (Code.region id ops true).wp P Q a w := by
  subst hn
  subst hl
  exact wp_region_last hm (h hS)
def takeB (md : Region.Mode) (ops : Array Oper) (ds : List Nat) (l l' : Array Bool) (i : Nat) : Bool :=
 Region.noSelect ops && Region.free md ops l i && (Region.ready md ops l).contains i && Region.closedB md ops l && Region.lastB md ops l ds i && (l.setIfInBounds i true == l')
theorem take_ {i : Nat} {N : Option Tmp} {oi : Oper} {v : Value} {fuel : Nat} {l : Array Bool} {a : Act} {w : World} (l' : Array Bool) (hi : ops[i]? = some oi) (hN : oi.dst = N) (hc : takeB md ops ds l l' i = true)
    (hQ : ∀ c a w, Q (.panic c) (a.put oi.dst v) w → Q (.panic c) a w) (hy : YieldsIf P ops S oi v a) (hS : S w) {a' : Act} (ha : a.put N v = a')
    (h : wpAnyLast P md ops Q S ds fuel l' a' w) : wpAnyLast P md ops Q S ds (fuel + 1) l a w := by
  subst ha
  subst hN
  simp only [takeB, Bool.and_eq_true, beq_iff_eq] at hc
  obtain ⟨⟨⟨⟨⟨h1, h2⟩, h3⟩, h4⟩, h5⟩, h6⟩ := hc
  subst h6
  exact wpAnyLast_take hi h1 h2 h3 h4 h5 hQ hy hS h
def anyB (md : Region.Mode) (ops : Array Oper) (l l' : Array Bool) (i : Nat) : Bool :=
 Region.noSelect ops && Region.free md ops l i && (Region.ready md ops l).contains i && (l.setIfInBounds i true == l')
theorem pure_ {i : Nat} {N : Option Tmp} {oi : Oper} {v : Value} {fuel : Nat} {l : Array Bool} {a : Act} {w : World} (l' : Array Bool) (hi : ops[i]? = some oi) (hN : oi.dst = N) (hc : anyB md ops l l' i = true)
    (hQ : ∀ c a w, Q (.panic c) (a.put oi.dst v) w → Q (.panic c) a w) (hy : Yields P ops oi v a) {a' : Act} (ha : a.put N v = a')
    (h : wpAnyLast P md ops Q S ds fuel l' a' w) : wpAnyLast P md ops Q S ds (fuel + 1) l a w := by
  subst ha
  subst hN
  simp only [anyB, Bool.and_eq_true, beq_iff_eq] at hc
  obtain ⟨⟨⟨h1, h2⟩, h3⟩, h6⟩ := hc
  subst h6
  exact wpAnyLast_any hi (Region.noSelect_spec h1) hQ fuel l a w (Region.free_spec hi h2) (by simpa using h3) hy h
def readyB (md : Region.Mode) (ops : Array Oper) (l l' : Array Bool) (i : Nat) : Bool := (Region.ready md ops l == [i]) && (l.setIfInBounds i true == l')
theorem one_ {i : Nat} {N : Option Tmp} {oi : Oper} {fuel : Nat} {l : Array Bool} {a : Act} {w : World} (l' : Array Bool) (hi : ops[i]? = some oi) (hN : oi.dst = N) (hc : readyB md ops l l' i = true) (hd : i ∉ ds)
    (h : ∀ K : Act → World → Prop, Shut (∀ a' w', S w' → (S w' → wpAnyLast P md ops Q S ds fuel l' a' w') → K a' w') → if Region.wanted oi (yielded ops a.tmps) = true then Oper.wp P oi a w K Q else K (a.put N undef) w) :
    wpAnyLast P md ops Q S ds (fuel + 1) l a w := by
  subst hN
  simp only [readyB, Bool.and_eq_true, beq_iff_eq] at hc
  obtain ⟨h1, h2⟩ := hc
  subst h2
  exact wpAnyLast_ready h1 (by simp) (AllReadyL.cons hi hd (fun K hK => h K hK) AllReadyL.nil)
theorem done_ {l : Array Bool} {a : Act} {w : World} {n : Nat} (hr : (Region.ready md ops l == []) = true) (h : Q .normal a w) : wpAnyLast P md ops Q S ds n l a w := wpAnyLast_done (by simpa using hr) h n
theorem norm_ {fuel : Nat} {l : Array Bool} {a a' : Act} {w : World} (ha : a = a') (h : wpAnyLast P md ops Q S ds fuel l a' w) : wpAnyLast P md ops Q S ds fuel l a w := by
 subst ha
 exact h
theorem call_ {oi : Oper} {N : Option Tmp} {a : Act} {w : World} {K : Act → World → Prop} (f : FuncId) (args : Array Value) (hw : Region.wanted oi (yielded ops a.tmps) = true) (hN : oi.dst = N) (hrun : (execOp a.eval oi).run P w = .ok (.enter f args) w)
    (h : Calls P f args w fun e w' => ∃ v, e = .returned v ∧ K (a.put N v) w') : if Region.wanted oi (yielded ops a.tmps) = true then Oper.wp P oi a w K Q else K (a.put N undef) w := by
  rw [if_pos hw]
  subst hN
  unfold Oper.wp
  rw [hrun, Oper.upon_enter]
  refine h.mono fun e w'' hh => ?_
  obtain ⟨v, rfl, hk⟩ := hh
  exact hk
theorem enters_ {f : FuncId} {fn : Func} (hf : P.funcs[f]? = some fn) (hname : (fn.name == "runtime.NumGoroutine") = false) (hb : fn.body.isSome = true) (args : Array Value) (w : World) : (callFunc f args).run P w = .ok (.enter f args) w := by
 have h1 : fn.name ≠ "runtime.NumGoroutine" := by simpa using hname
 obtain ⟨c, hc⟩ := Option.isSome_iff_exists.1 hb
 simp [callFunc, hf, h1, hc]
theorem goes_ {oi : Oper} {N : Option Tmp} {a : Act} {w : World} {K : Act → World → Prop} {f : FuncId} {fn : Func} {as_ : Array Operand} {ts : Array TypeId} (hf : P.funcs[f]? = some fn) (hname : (fn.name == "runtime.NumGoroutine") = false) (hb : fn.body.isSome = true) (args : Array Value)
    (hw : Region.wanted oi (yielded ops a.tmps) = true) (hN : oi.dst = N) (hop : oi.op = .call { callee := .value (.func f), args := as_, argTypes := ts }) (hargs : as_.map a.eval = args)
    (h : Calls P f args w fun e w' => ∃ v, e = .returned v ∧ K (a.put N v) w') : if Region.wanted oi (yielded ops a.tmps) = true then Oper.wp P oi a w K Q else K (a.put N undef) w := by
  refine call_ f args hw hN ?_ h
  have he := enters_ hf hname hb args w
  unfold execOp
  simp [hop, resolve, Deferred.ofValue, invoke, Act.eval, hargs, he]
theorem goesL_ {rest : List Oper} {oi : Oper} {a : Act} {w : World} (N : Option Tmp) (hd : oi.dst = N) (hg : oi.guard = none) {f : FuncId} {fn : Func} {as_ : Array Operand} {ts : Array TypeId} (hf : P.funcs[f]? = some fn) (hname : (fn.name == "runtime.NumGoroutine") = false) (hb : fn.body.isSome = true) (args : Array Value)
    (hop : oi.op = .call { callee := .value (.func f), args := as_, argTypes := ts }) (hargs : as_.map a.eval = args)
    (h : Calls P f args w fun e w' => ∃ v, e = .returned v ∧ wpList P ops Q rest (a.put N v) w') : wpList P ops Q (oi :: rest) a w := by
  refine wpList_plain hg fun K hK => ?_
  have he := enters_ hf hname hb args w
  have hrun : (execOp a.eval oi).run P w = .ok (.enter f args) w := by
    unfold execOp
    simp [hop, resolve, Deferred.ofValue, invoke, Act.eval, hargs, he]
  unfold Oper.wp
  rw [hrun, Oper.upon_enter]
  refine h.mono fun e w'' hh => ?_
  obtain ⟨v, rfl, hk⟩ := hh
  subst hd
  exact hK _ _ hk
theorem i64_w (n : Int) : IntKind.i64.wrap n = Go.RowKit.wrap64 n := by unfold Go.RowKit.wrap64; exact IntKind.wrap_i64 n
end
end Go.Proofs.YtbhakljebcmocaaW.PrintLast
end
section
namespace Go.Proofs.YtbhakljebcmocaaW.PrintLast
open Go.Proofs.YtbhakljebcmocaaW.PrintWords (Aside0)
def needsOf (md : Region.Mode) (o : Oper) : List Nat := (o.after.toList.filter (fun e => Region.binds md e)).map (fun e => e.on)
def clashOf (md : Region.Mode) (ops : Array Oper) (i : Nat) (oi : Oper) : List Nat := (List.range ops.size).filter fun j => !(j == i) && match ops[j]? with
 | some oj => !(oj.after.any (fun e => Region.binds md e && e.on == i) || oi.apart ops oj)
 | none => false
def rtab (md : Region.Mode) (ops : Array Oper) : Bool × List (List Nat × List Nat) := (Region.noSelect ops, (List.range ops.size).map fun i => match ops[i]? with
 | some o => (needsOf md o, clashOf md ops i o)
 | none => ([], []))
def readyAt (T : List (List Nat × List Nat)) (l : List Bool) (i : Nat) : Bool := !l.getD i true && match T[i]? with
 | some r => r.1.all (fun j => l.getD j false)
 | none => false
def readyT (T : List (List Nat × List Nat)) (l : List Bool) : List Nat := (List.range T.length).filter (readyAt T l)
def freeT (T : List (List Nat × List Nat)) (l : List Bool) (i : Nat) : Bool := match T[i]? with
 | some r => r.2.all (fun j => l.getD j true)
 | none => false
def closedT (T : List (List Nat × List Nat)) (l : List Bool) : Bool := (List.range T.length).all fun j => !l.getD j false || match T[j]? with
 | some r => r.1.all (fun k => l.getD k false)
 | none => true
def reachT (T : List (List Nat × List Nat)) (i : Nat) : Nat → Nat → Bool
 | 0, _ => false
 | fuel + 1, d => match T[d]? with
  | some r => r.1.any fun j => j == i || reachT T i fuel j
  | none => false
def lastT (T : List (List Nat × List Nat)) (l : List Bool) (ds : List Nat) (i : Nat) : Bool := ds.all fun d => l.getD d true || reachT T i T.length d
section
variable {md : Region.Mode} {ops : Array Oper} {T : Bool × List (List Nat × List Nat)} {l l' li lj lk : Array Bool} {ds : List Nat} {i j k : Nat}
theorem gd (l : Array Bool) (j : Nat) (b : Bool) : l.getD j b = l.toList.getD j b := by simp [Array.getD_eq_getD_getElem?, List.getD_eq_getElem?_getD]
theorem needs_all (o : Oper) (p : Nat → Bool) : o.after.all (fun e => !Region.binds md e || p e.on) = (needsOf md o).all p := by
 unfold needsOf
 rw [← Array.all_toList]
 induction o.after.toList with
 | nil => rfl
 | cons e r ih =>
  rw [List.all_cons, ih, List.filter_cons]
  cases h : Region.binds md e <;> simp
theorem needs_any (o : Oper) (p : Nat → Bool) : o.after.any (fun e => Region.binds md e && p e.on) = (needsOf md o).any p := by
 unfold needsOf
 rw [← Array.any_toList]
 induction o.after.toList with
 | nil => rfl
 | cons e r ih =>
  rw [List.any_cons, ih, List.filter_cons]
  cases h : Region.binds md e <;> simp
theorem rtab_length : (rtab md ops).2.length = ops.size := by simp [rtab]
theorem rtab_some {o : Oper} (h : ops[i]? = some o) : (rtab md ops).2[i]? = some (needsOf md o, clashOf md ops i o) := by
 have hi := (Array.getElem?_eq_some_iff.1 h).1
 unfold rtab
 rw [List.getElem?_map, List.getElem?_range hi, Option.map_some, h]
theorem rtab_none (h : ops[i]? = none) : (rtab md ops).2[i]? = none := by
 have hi : ops.size ≤ i := Array.getElem?_eq_none_iff.1 h
 exact List.getElem?_eq_none (by rw [rtab_length]; exact hi)
theorem readyAt_eq : readyAt (rtab md ops).2 l.toList i = (!l.getD i true && ((ops[i]?).map (·.after.all fun e => !Region.binds md e || l.getD e.on false)).getD false) := by
 unfold readyAt
 rw [gd]
 cases h : ops[i]? with
 | none => rw [rtab_none h]; rfl
 | some o =>
  rw [rtab_some h]
  simp only [Option.map_some, Option.getD_some]
  rw [← needs_all]
  simp only [gd]
theorem ready_eq : Region.ready md ops l = readyT (rtab md ops).2 l.toList := by
 unfold Region.ready readyT
 rw [rtab_length]
 refine List.filter_congr (fun i _ => ?_)
 rw [readyAt_eq]
theorem free_eq : Region.free md ops l i = freeT (rtab md ops).2 l.toList i := by
 unfold Region.free freeT
 cases h : ops[i]? with
 | none => rw [rtab_none h]
 | some oi =>
  rw [rtab_some h]
  simp only [clashOf]
  rw [List.all_filter]
  congr 1
  funext j
  rw [gd]
  cases hj : ops[j]? with
  | none => cases (j == i) <;> cases (l.toList.getD j true) <;> simp
  | some oj =>
   cases (j == i) <;> cases (l.toList.getD j true) <;> cases (oj.after.any (fun e => Region.binds md e && e.on == i) || oi.apart ops oj) <;> simp_all
theorem closed_eq : Region.closedB md ops l = closedT (rtab md ops).2 l.toList := by
 unfold Region.closedB closedT
 rw [rtab_length]
 congr 1
 funext j
 rw [gd]
 cases h : ops[j]? with
 | none => rw [rtab_none h]
 | some o =>
  rw [rtab_some h]
  simp only
  rw [← needs_all]
  simp only [gd]
theorem reach_eq : ∀ (fuel d : Nat), Region.reachB md ops i fuel d = reachT (rtab md ops).2 i fuel d
 | 0, _ => rfl
 | fuel + 1, d => by
  unfold Region.reachB reachT
  cases h : ops[d]? with
  | none => rw [rtab_none h]
  | some o =>
   rw [rtab_some h]
   simp only
   rw [← needs_any]
   congr 1
   funext e
   rw [reach_eq fuel]
theorem last_eq : Region.lastB md ops l ds i = lastT (rtab md ops).2 l.toList ds i := by
 unfold Region.lastB lastT
 rw [rtab_length]
 congr 1
 funext d
 rw [gd, reach_eq]
theorem readyAt_mem (h : readyAt T.2 l.toList i = true) (hT : rtab md ops = T) : (Region.ready md ops l).contains i = true := by
 subst hT
 rw [ready_eq]
 unfold readyT
 rw [List.contains_iff_mem, List.mem_filter, List.mem_range]
 refine ⟨?_, h⟩
 unfold readyAt at h
 rw [Bool.and_eq_true] at h
 cases hq : (rtab md ops).2[i]? with
 | none => rw [hq] at h; simp at h
 | some r => exact (List.getElem?_eq_some_iff.1 hq).1
theorem set_of (h : (l.toList.set i true == l'.toList) = true) : (l.setIfInBounds i true == l') = true := by
 rw [beq_iff_eq] at h ⊢
 apply Array.ext'
 rw [Array.toList_setIfInBounds]
 exact h
def anyT (T : Bool × List (List Nat × List Nat)) (l l' : List Bool) (i : Nat) : Bool := T.1 && freeT T.2 l i && readyAt T.2 l i && (l.set i true == l')
theorem any_of (hT : rtab md ops = T) (h : anyT T l.toList l'.toList i = true) : anyB md ops l l' i = true := by
 simp only [anyT, Bool.and_eq_true] at h
 obtain ⟨⟨⟨h1, h2⟩, h3⟩, h4⟩ := h
 have h5 := readyAt_mem h3 hT
 have h6 := set_of h4
 subst hT
 simp only [anyB, Bool.and_eq_true]
 exact ⟨⟨⟨h1, by rw [free_eq]; exact h2⟩, h5⟩, h6⟩
def takeT (T : Bool × List (List Nat × List Nat)) (ds : List Nat) (l l' : List Bool) (i : Nat) : Bool := T.1 && freeT T.2 l i && readyAt T.2 l i && closedT T.2 l && lastT T.2 l ds i && (l.set i true == l')
theorem take_of (hT : rtab md ops = T) (h : takeT T ds l.toList l'.toList i = true) : takeB md ops ds l l' i = true := by
 simp only [takeT, Bool.and_eq_true] at h
 obtain ⟨⟨⟨⟨⟨h1, h2⟩, h3⟩, h4⟩, h5⟩, h6⟩ := h
 have h7 := readyAt_mem h3 hT
 have h8 := set_of h6
 subst hT
 simp only [takeB, Bool.and_eq_true]
 exact ⟨⟨⟨⟨⟨h1, by rw [free_eq]; exact h2⟩, h7⟩, by rw [closed_eq]; exact h4⟩, by rw [last_eq]; exact h5⟩, h8⟩
theorem one_of (hT : rtab md ops = T) (h : (readyT T.2 l.toList == [i] && l.toList.set i true == l'.toList) = true) : readyB md ops l l' i = true := by
 simp only [Bool.and_eq_true] at h
 obtain ⟨h1, h2⟩ := h
 subst hT
 simp only [readyB, Bool.and_eq_true]
 exact ⟨by rw [ready_eq]; exact h1, set_of h2⟩
theorem done_of (hT : rtab md ops = T) (h : (readyT T.2 l.toList == []) = true) : (Region.ready md ops l == []) = true := by
 subst hT
 rw [ready_eq]
 exact h
def upM (B : List Nat) (d : Nat) : List Nat → Nat
 | [] => 0
 | n :: r => (2 ^ n ||| (if n < d then B.getD n 0 else 0)) ||| upM B d r
def waitsOk (T : List (List Nat × List Nat)) (B : List Nat) : Bool := (List.range T.length).all fun d => match T[d]? with
 | some r => (B.getD d 0 ||| upM B d r.1) == upM B d r.1
 | none => false
theorem upM_bit {B : List Nat} {d i : Nat} : ∀ {ns : List Nat}, (upM B d ns).testBit i = true → ∃ n ∈ ns, n = i ∨ (n < d ∧ (B.getD n 0).testBit i = true)
 | [], h => by simp [upM] at h
 | n :: r, h => by
  unfold upM at h
  rw [Nat.testBit_or, Nat.testBit_or, Bool.or_eq_true, Bool.or_eq_true] at h
  rcases h with (h | h) | h
  ·rw [Nat.testBit_two_pow] at h
   exact ⟨n, List.mem_cons_self, .inl (by simpa using h)⟩
  ·by_cases hn : n < d
   ·rw [if_pos hn] at h
    exact ⟨n, List.mem_cons_self, .inr ⟨hn, h⟩⟩
   ·rw [if_neg hn] at h
    simp at h
  ·obtain ⟨m, hm, h2⟩ := upM_bit h
   exact ⟨m, List.mem_cons_of_mem _ hm, h2⟩
theorem reach_bit {T : List (List Nat × List Nat)} {B : List Nat} (hB : waitsOk T B = true) : ∀ (fuel d : Nat), d < fuel → d < T.length → (B.getD d 0).testBit i = true → reachT T i fuel d = true
 | 0, d, h, _, _ => by omega
 | fuel + 1, d, h, hd, hb => by
  have h1 := List.all_eq_true.1 hB d (List.mem_range.2 hd)
  cases hr : T[d]? with
  | none => rw [hr] at h1; simp at h1
  | some r =>
   rw [hr] at h1
   simp only [beq_iff_eq] at h1
   have h2 : (upM B d r.1).testBit i = true := by rw [← h1, Nat.testBit_or, hb, Bool.true_or]
   obtain ⟨n, hn, h3⟩ := upM_bit h2
   unfold reachT
   rw [hr]
   simp only
   rw [List.any_eq_true]
   refine ⟨n, hn, ?_⟩
   rcases h3 with rfl | ⟨h4, h5⟩
   ·simp
   ·rw [reach_bit hB fuel n (by omega) (by omega) h5, Bool.or_true]
def lastW (T : List (List Nat × List Nat)) (B : List Nat) (l : List Bool) (ds : List Nat) (i : Nat) : Bool := ds.all fun d => l.getD d true || (decide (d < T.length) && (B.getD d 0).testBit i)
def takeW (T : Bool × List (List Nat × List Nat)) (B : List Nat) (ds : List Nat) (l l' : List Bool) (i : Nat) : Bool := T.1 && freeT T.2 l i && readyAt T.2 l i && closedT T.2 l && lastW T.2 B l ds i && (l.set i true == l')
theorem take_ofW {B : List Nat} (hT : rtab md ops = T) (hB : waitsOk T.2 B = true) (h : takeW T B ds l.toList l'.toList i = true) : takeB md ops ds l l' i = true := by
 refine take_of hT ?_
 simp only [takeW, takeT, Bool.and_eq_true] at h ⊢
 obtain ⟨⟨⟨⟨⟨h1, h2⟩, h3⟩, h4⟩, h5⟩, h6⟩ := h
 refine ⟨⟨⟨⟨⟨h1, h2⟩, h3⟩, h4⟩, ?_⟩, h6⟩
 unfold lastW at h5
 unfold lastT
 rw [List.all_eq_true] at h5 ⊢
 intro d hd
 have h7 := h5 d hd
 rw [Bool.or_eq_true, Bool.and_eq_true, decide_eq_true_eq] at h7
 rcases h7 with h7 | ⟨h8, h9⟩
 ·rw [h7, Bool.true_or]
 ·rw [reach_bit hB _ d h8 h8 h9, Bool.or_true]
theorem with_tabW {P : Program} {Q : Exit → Act → World → Prop} {S : World → Prop} {n : Nat} {a : Act} {w : World} {B : List Nat} (hT : rtab md ops = T) (hB : waitsOk T.2 B = true) (h : Aside0 (rtab md ops = T) → Aside0 (waitsOk T.2 B = true) → wpAnyLast P md ops Q S ds n l a w) : wpAnyLast P md ops Q S ds n l a w := h ⟨hT⟩ ⟨hB⟩
end
def opsIn : Code → Nat → Option (Array Oper)
 | .region id ops _, k => if id == k then some ops else none
 | .seq a b, k => match opsIn a k with
  | some o => some o
  | none => opsIn b k
 | .cond _ a b, k => match opsIn a k with
  | some o => some o
  | none => opsIn b k
 | .block _ c, k => opsIn c k
 | .loop c, k => opsIn c k
 | .scope c, k => opsIn c k
 | .rangeFunc _ _ a b, k => match opsIn a k with
  | some o => some o
  | none => opsIn b k
 | _, _ => none
def opsOf (f : Func) (k : Nat) : Array Oper := ((f.body.bind fun c => opsIn c k)).getD #[]
end Go.Proofs.YtbhakljebcmocaaW.PrintLast
end
section
namespace Go.Proofs.YtbhakljebcmocaaW.PrintWords
open Go.RowKit
namespace Kd
def raw (sz : Nat) : Kd (List Value) where
 sz := sz
 E := []
 K := fun _ x cs => cs = x ∧ cs.length = sz ∧ ∀ u ∈ cs, u.oneCell' = true
 M := fun _ _ _ x cs => cs = x ∧ cs.length = sz ∧ ∀ u ∈ cs, u.oneCell' = true
 K_len := fun h => h.2.1
 K_one := fun h => h.2.2
 K_below := fun _ h => h
 K_of_M := fun h => h
 M_mono := fun _ h => h
 M_bound := fun h => h
 M_move := fun _ h => h
 M_lower := fun _ h => h
section
variable {α β : Type} {d : Kd α} {d' : Kd β} {e e' : Nat} {w w1 W : World} {base b : Nat} {ok ok' okv oku : Nat → Prop} {u v : Value} {xs : List α} {ys : List β}
theorem R_head {ad : Addr} {n cap : Nat} (h : d.R e w base ok (.slice (some ad) n cap) xs) : ∃ g, ad = ⟨g, 0, none⟩ := by
 obtain ⟨_, inner, ho, hr⟩ := h
 rcases ho.2 with ⟨hv, _⟩ | ⟨g, cap', cur, hv, _⟩
 ·cases hv
 ·injection hv with ha _ _
  injection ha with ha
  exact ⟨g, ha⟩
theorem R_tight (hE : d.E = []) (h : d.R e w base ok v xs) : d.R e w base (fun k => some k = v.ownBlock) v xs := by
 obtain ⟨h0, inner, ho, hr⟩ := h
 refine ⟨fun k hk => hk.symm, inner, ho, hr.imp_ (fun p c hp => d.M_mono (fun k hk => ?_) (d.M_bound hp))⟩
 obtain ⟨_, _, _, q, hq, _⟩ := hk
 rw [hE] at hq
 cases hq
end
section
variable {α β : Type} {d : Kd α} {d' : Kd β} {e e' g : Nat} {w w1 W : World} {base b : Nat} {ok ok' okv oku : Nat → Prop} {u v : Value} {xs : List α} {ys : List β}
end
section
variable {P : Program} {ops : Array Oper} {rest : List Oper} {o : Oper} {a : Act} {Q : Exit → Act → World → Prop} {Kc : Act → World → Prop} {α : Type}
end
section
variable {α β : Type} {d : Kd α} {e e' g n cap : Nat} {w w1 W : World} {base : Nat} {ok ok' oki okp : Nat → Prop} {u v : Value} {xs : List α} {i : Int} {c : List Value}
end
section
variable {P : Program} {ops : Array Oper} {rest : List Oper} {o : Oper} {a : Act} {Q : Exit → Act → World → Prop} {α : Type}
end
end Kd
end Go.Proofs.YtbhakljebcmocaaW.PrintWords
end
section
namespace Go.Proofs.YtbhakljebcmocaaW.PrintWords
open Go.RowKit
namespace Kd
structure Heap {α : Type} (d : Kd α) : Prop where
 K : ∀ {w w1 : World} {x : α} {cs : List Value}, (∀ k, k < w.heap.size → w1.heap[k]? = w.heap[k]?) → d.K w x cs → d.K w1 x cs
theorem cell_heap {w w1 : World} (hb : ∀ k, k < w.heap.size → w1.heap[k]? = w.heap[k]?) {a : Addr} {v : Value} (h : w.cell? a = some v) : w1.cell? a = some v := by
 have := hb a.block (World.block_lt_of_cell? w a h)
 simpa [World.cell?, this] using h
theorem Heap.C {α : Type} {d : Kd α} (hd : Heap d) {w w1 : World} {A : Option Addr} {n : Nat} {xs : List α} (hb : ∀ k, k < w.heap.size → w1.heap[k]? = w.heap[k]?) (h : d.C w A n xs) : d.C w1 A n xs :=
 ⟨h.1, h.2.1, fun hn => by
  obtain ⟨ad, e, hc⟩ := h.2.2 hn
  refine ⟨ad, e, fun j p hj => ?_⟩
  obtain ⟨c, hs, hr, hcell⟩ := hc j p hj
  exact ⟨c, hs, hd.K hb hr, fun i u hu => cell_heap hb (hcell i u hu)⟩⟩
theorem heap_int (k : IntKind) : Heap (Kd.int k) := ⟨fun _ h => h⟩
theorem heap_bool : Heap Kd.bool := ⟨fun _ h => h⟩
theorem heap_slice {α : Type} {d : Kd α} (e : Nat) (hd : Heap d) : Heap (slice e d) := ⟨by
 rintro w w1 x cs hb ⟨A, c, rfl, hl, hr⟩
 exact ⟨A, c, rfl, hl, hd.C hb hr⟩⟩
theorem heap_pair {α β : Type} {a : Kd α} {b : Kd β} (ha : Heap a) (hb' : Heap b) : Heap (pair a b) := ⟨by
 rintro w w1 x cs hb ⟨c0, c1, rfl, h0, h1⟩
 exact ⟨c0, c1, rfl, ha.K hb h0, hb'.K hb h1⟩⟩
theorem heap_iso {α β : Type} {d : Kd α} (f : β → α) (hd : Heap d) : Heap (iso d f) := ⟨fun hb h => hd.K hb h⟩
section
variable {α : Type} {d : Kd α} {e base g n c : Nat} {ok : Nat → Prop} {w w0 W : World} {A : Option Addr} {xs : List α}
end
end Kd
end Go.Proofs.YtbhakljebcmocaaW.PrintWords
end
section
namespace Go.Proofs.YtbhakljebcmocaaW.PrintWords
open Go.RowKit
def Foot (P : World → Prop) (W : World) (ok : Nat → Prop) : Prop := ∀ W' : World, (∀ k, ok k → k < W.heap.size → W'.heap[k]? = W.heap[k]?) → P W'
theorem heap_lt {W W1 : World} {k : Nat} (h : W1.heap[k]? = W.heap[k]?) (hlt : k < W.heap.size) : k < W1.heap.size := by
 rw [Array.getElem?_eq_getElem hlt] at h
 exact (Array.getElem?_eq_some_iff.1 h).1
namespace Foot
variable {P Q : World → Prop} {W W1 : World} {ok ok' : Nat → Prop}
theorem now (h : Foot P W ok) : P W := h W (fun _ _ _ => rfl)
theorem mono (h : Foot P W ok) (hok : ∀ k, ok k → ok' k) : Foot P W ok' := fun W' hW => h W' (fun k hk hlt => hW k (hok k hk) hlt)
theorem bound (h : Foot P W ok) : Foot P W (fun k => ok k ∧ k < W.heap.size) := fun W' hW => h W' (fun k hk hlt => hW k ⟨hk, hlt⟩ hlt)
theorem step (h : Foot P W ok) (hm : ∀ k, ok k → k < W.heap.size → W1.heap[k]? = W.heap[k]?) : Foot P W1 ok := fun W' hW => h W' (fun k hk hlt => (hW k hk (heap_lt (hm k hk hlt) hlt)).trans (hm k hk hlt))
theorem imp (h : Foot P W ok) (hi : ∀ W', P W' → Q W') : Foot Q W ok := fun W' hW => hi W' (h W' hW)
theorem old (h : Foot P W ok) (hb : Below W.heap.size W W1) : Foot P W1 (fun k => ok k ∧ k < W.heap.size) := (h.bound).step (fun k _ hlt => hb.block k hlt)
end Foot
namespace Kd
def F {α : Type} (d : Kd α) (W : World) (ok : Nat → Prop) (A : Option Addr) (n : Nat) (xs : List α) : Prop := Foot (fun W => d.C W A n xs) W ok
def FK {α : Type} (d : Kd α) (W : World) (ok : Nat → Prop) (x : α) (c : List Value) : Prop := Foot (fun W => d.K W x c) W ok
section
variable {α β : Type} {d : Kd α} {e base n n' cc g N : Nat} {ok ok' okp S : Nat → Prop} {w w0 w1 W W1 : World} {A A' : Option Addr} {u v v1 : Value} {xs : List α} {xs' : List β} {d' : Kd β} {x : α} {c : List Value}
theorem F_now (h : F d W ok A n xs) : d.C W A n xs := Foot.now h
theorem F_mono (h : F d W ok A n xs) (hok : ∀ k, ok k → ok' k) : F d W ok' A n xs := Foot.mono h hok
theorem F_bound (h : F d W ok A n xs) : F d W (fun k => ok k ∧ k < W.heap.size) A n xs := Foot.bound h
theorem F_imp (h : F d W ok A n xs) (hi : ∀ W', d.C W' A n xs → d'.C W' A' n' xs') : F d' W ok A' n' xs' := Foot.imp h hi
theorem F_elder' (h : F d W ok A n xs) (hbase : ∀ k, v.ownBlock = some k → W.heap.size ≤ k) (hb : Below W.heap.size W W1) : F d W1 (fun k => ok k ∧ some k ≠ v.ownBlock) A n xs :=
 F_mono (Foot.old h hb) (fun k hk => ⟨hk.1, fun he => by have := hbase k he.symm; have := hk.2; omega⟩)
theorem F_after (h : F d W (fun k => ok k ∧ some k ≠ v.ownBlock) A n xs) (hg : W.grownBy W1 v.ownBlock) (hat : v1.ownBlock = v.ownBlock ∨ ∃ b, v1.ownBlock = some b ∧ W.heap.size ≤ b) : F d W1 (fun k => ok k ∧ some k ≠ v1.ownBlock) A n xs := by
 refine F_mono (Foot.step (F_bound h) (fun k hk hlt => hg.block k hlt hk.1.2)) (fun k hk => ⟨hk.1.1, ?_⟩)
 rcases hat with hat | ⟨b, hb, hle⟩
 ·rw [hat]; exact hk.1.2
 ·rw [hb]
  intro he
  injection he with he
  have := hk.2
  omega
theorem FK_now (h : FK d W ok x c) : d.K W x c := Foot.now h
theorem FK_mono (h : FK d W ok x c) (hok : ∀ k, ok k → ok' k) : FK d W ok' x c := Foot.mono h hok
theorem FK_bound (h : FK d W ok x c) : FK d W (fun k => ok k ∧ k < W.heap.size) x c := Foot.bound h
theorem FK_step (h : FK d W ok x c) (hm : ∀ k, ok k → k < W.heap.size → W1.heap[k]? = W.heap[k]?) : FK d W1 ok x c := Foot.step h hm
theorem emptied (W : World) (g : Nat) : ∃ W' : World, (∀ k, k ≠ g → W'.heap[k]? = W.heap[k]?) ∧ ∀ a : Addr, a.block = g → W'.cell? a = none := by
 refine ⟨{ W with heap := W.heap.setIfInBounds g (.cells #[] 0) }, fun k hk => by simp [Ne.symm hk], fun a ha => ?_⟩
 subst ha
 by_cases hlt : a.block < W.heap.size
 ·simp [World.cell?, hlt]
 ·simp [World.cell?, hlt]
end
end Kd
end Go.Proofs.YtbhakljebcmocaaW.PrintWords
end
section
namespace Go.Proofs.YtbhakljebcmocaaW.PrintWords
open Go.RowKit
namespace Kd
def chunks (sz : Nat) (n : Nat) (inner : List Value) : List (List Value) := (List.range n).map fun j => (inner.drop (j * sz)).take sz
theorem chunks_length (sz n : Nat) (inner : List Value) : (chunks sz n inner).length = n := by simp [chunks]
theorem chunks_at {sz n : Nat} {inner : List Value} {j : Nat} (hj : j < n) : (chunks sz n inner)[j]? = some ((inner.drop (j * sz)).take sz) := by simp [chunks, hj]
theorem chunks_get {sz n : Nat} {inner : List Value} {j : Nat} {c : List Value} (h : (chunks sz n inner)[j]? = some c) : c = (inner.drop (j * sz)).take sz := by
 have hj : j < n := by have := (List.getElem?_eq_some_iff.1 h).1; rwa [chunks_length] at this
 rw [chunks_at hj] at h
 injection h with h
 exact h.symm
theorem reps_raw {α : Type} {Rr : α → List Value → Prop} {sz : Nat} {xs : List α} {inner : List Value} (h : Reps Rr sz xs inner) (hR : ∀ x c, Rr x c → c.length = sz ∧ ∀ u ∈ c, u.oneCell' = true) : Reps (fun x cs => cs = x ∧ cs.length = sz ∧ ∀ u ∈ cs, u.oneCell' = true) sz (chunks sz xs.length inner) inner := by
 refine ⟨by rw [chunks_length]; exact h.1, fun j p hj => ?_⟩
 have hjl : j < xs.length := by have := (List.getElem?_eq_some_iff.1 hj).1; rwa [chunks_length] at this
 have hp := chunks_get hj
 exact ⟨hp.symm, hR _ _ (h.2 j _ (List.getElem?_eq_getElem hjl))⟩
section
variable {α : Type} {d : Kd α} {e base n cc g : Nat} {ok ok' okp S : Nat → Prop} {w w1 W W1 : World} {A : Option Addr} {u v v1 : Value} {xs : List α} {x : α} {c : List Value}
theorem F_get (h : F d W ok A n xs) (z : α) (i : Int) (h0 : 0 ≤ i) (h1 : i < n) :
    ∃ ad c, A = some ad ∧ c.length = d.sz ∧ FK d W ok (xs.getD i.toNat z) c ∧ (∀ j u, c[j]? = some u → W.cell? (ad.add (i.toNat * d.sz + j)) = some u) ∧ (0 < d.sz → ok ad.block) := by
  obtain ⟨ad, c, rfl, hcl, hK, hcc⟩ := C_get (F_now h) z i h0 h1
  have hin : 0 < d.sz → ok ad.block := by
    intro hs
    by_cases hk : ok ad.block
    · exact hk
    · obtain ⟨W', h2, h3⟩ := emptied W ad.block
      obtain ⟨ad', c', he, hcl', _, hcc'⟩ := C_get (h W' (fun k hk' _ => h2 k (fun e => hk (e ▸ hk')))) z i h0 h1
      injection he with he
      subst he
      have h4 := hcc' 0 _ (List.getElem?_eq_getElem (by omega))
      rw [h3 _ (add_block _ _)] at h4
      cases h4
  refine ⟨ad, c, rfl, hcl, fun W' hW => ?_, hcc, hin⟩
  obtain ⟨ad', c', he, hcl', hK', hcc'⟩ := C_get (h W' hW) z i h0 h1
  injection he with he
  subst he
  have hc : c = c' := by
    apply List.ext_getElem?
    intro j
    by_cases hj : j < d.sz
    · have hb : W'.heap[ad.block]? = W.heap[ad.block]? := by
        have h5 := hcc j _ (List.getElem?_eq_getElem (by omega))
        have h6 := World.block_lt_of_cell? W _ h5
        rw [add_block] at h6
        exact hW _ (hin (by omega)) h6
      have h5 := hcc j _ (List.getElem?_eq_getElem (by omega))
      have h6 := hcc' j _ (List.getElem?_eq_getElem (by omega))
      have h7 : W'.cell? (ad.add (i.toNat * d.sz + j)) = W.cell? (ad.add (i.toNat * d.sz + j)) := by simp [World.cell?, add_block, hb]
      rw [h7, h5] at h6
      rw [List.getElem?_eq_getElem (by omega), List.getElem?_eq_getElem (by omega)]
      exact h6
    · rw [List.getElem?_eq_none (by omega), List.getElem?_eq_none (by omega)]
  rw [hc]
  exact hK'
theorem F_rows (h : F d W ok A n xs) : ReadsRow (fun x c => FK d W ok x c) d.sz W A n xs := by
 obtain ⟨hl, hm, hn⟩ := F_now h
 refine ⟨hl, hm, fun hp => ?_⟩
 obtain ⟨ad, rfl, _⟩ := hn hp
 refine ⟨ad, rfl, fun j p hj => ?_⟩
 obtain ⟨hjl, hjp⟩ := List.getElem?_eq_some_iff.1 hj
 obtain ⟨ad', c, he, hcl, hK, hcc, _⟩ := F_get h p (j : Int) (by omega) (by omega)
 injection he with he
 subst he
 simp only [Int.toNat_natCast] at hK hcc
 rw [List.getD_eq_getElem?_getD, hj] at hK
 exact ⟨c, hcl, hK, hcc⟩
def N {α : Type} (d : Kd α) (e : Nat) (w : World) (base : Nat) (ok : Nat → Prop) (v : Value) (xs : List α) : Prop :=
 (∀ k, v.ownBlock = some k → ok k) ∧ ∃ rows : List (List Value), rows.length = xs.length ∧ (raw d.sz).R e w base (fun k => some k = v.ownBlock) v rows ∧ ∀ (j : Nat) (x : α) (c : List Value), xs[j]? = some x → rows[j]? = some c → FK d w (fun k => ok k ∧ some k ≠ v.ownBlock) x c
theorem raw_tight {sz : Nat} {rows : List (List Value)} (h : (raw sz).R e w base ok v rows) : (raw sz).R e w base (fun k => some k = v.ownBlock) v rows := R_tight rfl h
theorem raw_any {sz : Nat} {rows : List (List Value)} (h : (raw sz).R e w base ok v rows) : (raw sz).R e w base (fun _ => True) v rows := R_mono h (fun _ _ => trivial)
theorem N_mono (h : N d e w base ok v xs) (hok : ∀ k, ok k → ok' k) : N d e w base ok' v xs := by
 obtain ⟨h0, rows, hl, hR, hf⟩ := h
 exact ⟨fun k hk => hok k (h0 k hk), rows, hl, hR, fun j x c hx hc => FK_mono (hf j x c hx hc) (fun k hk => ⟨hok k hk.1, hk.2⟩)⟩
theorem N_lt (h : N d e w base ok v xs) : ∀ k, v.ownBlock = some k → k < w.heap.size := by
 obtain ⟨_, rows, _, hR, _⟩ := h
 exact R_lt hR
theorem N_base (h : N d e w base ok v xs) : ∀ k, v.ownBlock = some k → base ≤ k := by
 obtain ⟨_, rows, _, hR, _⟩ := h
 exact R_base hR
theorem N_typed (h : N d e w base ok v xs) : ∀ k, v.ownBlock = some k → ∃ cells, w.heap[k]? = some (.cells cells e (0, 0)) := by
 obtain ⟨_, rows, _, hR, _⟩ := h
 exact R_typed hR
theorem N_bound (h : N d e w base ok v xs) : N d e w base (fun k => ok k ∧ k < w.heap.size) v xs := by
 have hlt := N_lt h
 obtain ⟨h0, rows, hl, hR, hf⟩ := h
 exact ⟨fun k hk => ⟨h0 k hk, hlt k hk⟩, rows, hl, hR, fun j x c hx hc => FK_mono (FK_bound (hf j x c hx hc)) (fun k hk => ⟨⟨hk.1.1, hk.2⟩, hk.1.2⟩)⟩
theorem N_lower {base' : Nat} (h : N d e w base ok v xs) (hb : base' ≤ base) : N d e w base' ok v xs := by
 obtain ⟨h0, rows, hl, hR, hf⟩ := h
 exact ⟨h0, rows, hl, R_lower hR hb, hf⟩
theorem N_step (h : N d e w base ok v xs) (hm : ∀ k, ok k → k < w.heap.size → w1.heap[k]? = w.heap[k]?) : N d e w1 base ok v xs := by
 obtain ⟨h0, rows, hl, hR, hf⟩ := h
 exact ⟨h0, rows, hl, R_step hR (fun k hk hlt => hm k (h0 k hk.symm) hlt), fun j x c hx hc => FK_step (hf j x c hx hc) (fun k hk hlt => hm k hk.1 hlt)⟩
theorem N_below (h : N d e w base ok v xs) (hb : Below w.heap.size w w1) : N d e w1 base ok v xs := N_step h (fun k _ hk => hb.block k hk)
theorem N_drewN (h : N d e w base ok v xs) (m : Nat) : N d e (w.drewN m) base ok v xs := N_below h (pw_below_drewN (Below.refl _ _) m)
theorem N_after (h : N d e W base (fun k => ok k ∧ some k ≠ u.ownBlock) v xs) {u1 : Value} (hg : W.grownBy w1 u.ownBlock) (hat : u1.ownBlock = u.ownBlock ∨ ∃ b, u1.ownBlock = some b ∧ W.heap.size ≤ b) : N d e w1 base (fun k => ok k ∧ some k ≠ u1.ownBlock) v xs := by
 refine N_mono (N_step (N_bound h) (fun k hk hlt => hg.block k hlt hk.1.2)) (fun k hk => ⟨hk.1.1, ?_⟩)
 rcases hat with hat | ⟨b, hb, hle⟩
 ·rw [hat]; exact hk.1.2
 ·rw [hb]
  intro he
  injection he with he
  have := hk.2
  omega
theorem N_slice (h : N d e w base ok v xs) : ∃ A c, v = .slice A xs.length c := by
 obtain ⟨_, rows, hl, hR, _⟩ := h
 obtain ⟨A, c, he⟩ := R_slice hR
 exact ⟨A, c, by rw [he, hl]⟩
theorem N_form (h : N d e w base ok v xs) (hp : 0 < xs.length) : ∃ g cap, v = .slice (some ⟨g, 0, none⟩) xs.length cap ∧ base ≤ g ∧ g < w.heap.size ∧ ∃ cells, w.heap[g]? = some (.cells cells e (0, 0)) := by
 obtain ⟨_, rows, hl, hR, _⟩ := h
 rw [← hl] at hp ⊢
 exact R_form hR hp
theorem N_reads' {n c : Nat} (h : N d e w base ok (.slice A n c) xs) : n = xs.length ∧ n ≤ c ∧ d.C w A xs.length xs := by
 obtain ⟨_, rows, hl, hR, hf⟩ := h
 obtain ⟨hn, hc, hC⟩ := R_reads' hR
 refine ⟨by omega, hc, ?_⟩
 rw [hl] at hC
 refine ⟨rfl, hC.2.1, fun hp => ?_⟩
 obtain ⟨ad, he, hcell⟩ := hC.2.2 hp
 refine ⟨ad, he, fun j p hj => ?_⟩
 have hjl : j < rows.length := by have := (List.getElem?_eq_some_iff.1 hj).1; omega
 obtain ⟨c', hcl, hK, hcc⟩ := hcell j _ (List.getElem?_eq_getElem hjl)
 have hk := FK_now (hf j p _ hj (List.getElem?_eq_getElem hjl))
 refine ⟨c', hcl, ?_, hcc⟩
 rw [show c' = rows[j] from hK.1]
 exact hk
theorem N_elem {n cap : Nat} (h : N d e W base ok (.slice (some ⟨g, 0, none⟩) n cap) xs) (z : α) (i : Int) (h0 : 0 ≤ i) (h1 : i < n) :
    ∃ c, c.length = d.sz ∧ FK d W (fun k => ok k ∧ k ≠ g) (xs.getD i.toNat z) c ∧ (∀ j u, c[j]? = some u → W.cell? ⟨g, i.toNat * d.sz + j, none⟩ = some u) ∧ ∀ j, W.frozen? ⟨g, i.toNat * d.sz + j, none⟩ = false := by
  obtain ⟨_, rows, hl, hR, hf⟩ := h
  have hn := (R_reads' hR).1
  obtain ⟨c, hcl, hM, hcc, hfr⟩ := R_elem hR [] i h0 h1
  have hil : i.toNat < rows.length := by omega
  have hil' : i.toNat < xs.length := by omega
  have hc : c = rows[i.toNat] := by
    have h2 := hM.1
    rwa [List.getD_eq_getElem?_getD, List.getElem?_eq_getElem hil] at h2
  refine ⟨c, hcl, ?_, hcc, hfr⟩
  rw [List.getD_eq_getElem?_getD, List.getElem?_eq_getElem hil']
  exact FK_mono (hf _ _ _ (List.getElem?_eq_getElem hil') (by rw [hc]; exact List.getElem?_eq_getElem hil)) (fun k hk => ⟨hk.1, fun he => hk.2 (by rw [he]; simp [Value.ownBlock])⟩)
theorem N_get {ad : Addr} {n cap : Nat} (h : N d e W base ok (.slice (some ad) n cap) xs) (z : α) (i : Int) (h0 : 0 ≤ i) (h1 : i < n) :
    ∃ c, c.length = d.sz ∧ FK d W (fun k => ok k ∧ some k ≠ (Value.slice (some ad) n cap).ownBlock) (xs.getD i.toNat z) c ∧ ∀ j u, c[j]? = some u → W.cell? (ad.add (i.toNat * d.sz + j)) = some u := by
  obtain ⟨g, rfl⟩ : ∃ g, ad = ⟨g, 0, none⟩ := by
    obtain ⟨_, rows, _, hR, _⟩ := h
    exact R_head hR
  obtain ⟨c, hcl, hM, hcc, _⟩ := N_elem h z i h0 h1
  refine ⟨c, hcl, FK_mono hM (fun k hk => ⟨hk.1, fun he => hk.2 (by simpa [Value.ownBlock] using he)⟩), fun j u hu => ?_⟩
  rw [add_at, Nat.zero_add]
  exact hcc j u hu
end
end Kd
end Go.Proofs.YtbhakljebcmocaaW.PrintWords
end
section
namespace Go.Proofs.YtbhakljebcmocaaW.PrintWords
theorem Reps.one {α : Type} {R : α → List Value → Prop} {ps : List α} {cs : List Value} {p : α} {v : Value} (hp : R p [v]) (h : Reps R 1 ps cs) : Reps R 1 (p :: ps) (v :: cs) := by
 refine ⟨by simp [h.1], fun j q hq => ?_⟩
 cases j with
 | zero =>
  simp only [List.getElem?_cons_zero, Option.some.injEq] at hq
  subst hq
  simpa using hp
 | succ j =>
  simp only [List.getElem?_cons_succ] at hq
  have h1 := h.2 j q hq
  simpa [Nat.mul_one] using h1
end Go.Proofs.YtbhakljebcmocaaW.PrintWords
end
section
namespace Go.Proofs.YtbhakljebcmocaaW.PrintWords
open Go.RowKit
namespace Kd
section
variable {α : Type} {d : Kd α} {e base n cap g : Nat} {ok ok' okp : Nat → Prop} {w w1 W : World} {v v1 : Value} {xs ys : List α}
theorem N_appended {rows news : List (List Value)} (h0 : ∀ k, v.ownBlock = some k → ok k) (hl : rows.length = xs.length) (hf : ∀ (j : Nat) (x : α) (c : List Value), xs[j]? = some x → rows[j]? = some c → FK d W (fun k => ok k ∧ some k ≠ v.ownBlock) x c)
    (hl2 : news.length = ys.length) (hf2 : ∀ (j : Nat) (x : α) (c : List Value), ys[j]? = some x → news[j]? = some c → FK d W okp x c) (hokp : ∀ k, okp k → ok k ∧ some k ≠ v.ownBlock) (hfresh : ∀ k, W.heap.size ≤ k → ok k)
    (hR : (raw d.sz).R e w1 base (fun _ => True) v1 (rows ++ news)) (hg : W.grownBy w1 v.ownBlock) (hat : v1.ownBlock = v.ownBlock ∨ ∃ b, v1.ownBlock = some b ∧ W.heap.size ≤ b) : N d e w1 base ok v1 (xs ++ ys) := by
  have hne : ∀ k, some k ≠ v.ownBlock → k < W.heap.size → some k ≠ v1.ownBlock := by
    intro k hk hlt
    rcases hat with hat | ⟨b, hb, hle⟩
    · rw [hat]; exact hk
    · rw [hb]
      intro he
      injection he with he
      omega
  have step : ∀ {x : α} {c : List Value} {o : Nat → Prop}, FK d W o x c → (∀ k, o k → ok k ∧ some k ≠ v.ownBlock) → FK d w1 (fun k => ok k ∧ some k ≠ v1.ownBlock) x c := by
    intro x c o hq ho
    exact FK_mono (FK_step (FK_bound hq) (fun k hk hlt => hg.block k hlt (ho k hk.1).2)) (fun k hk => ⟨(ho k hk.1).1, hne k (ho k hk.1).2 hk.2⟩)
  refine ⟨fun k hk => ?_, rows ++ news, by rw [List.length_append, List.length_append, hl, hl2], raw_tight hR, fun j x c hx hc => ?_⟩
  · rcases hat with hat | ⟨b, hb, hle⟩
    · exact h0 k (hat ▸ hk)
    · rw [hb] at hk
      injection hk with hk
      exact hfresh k (by omega)
  · rcases Nat.lt_or_ge j xs.length with hlt | hge
    · rw [List.getElem?_append_left hlt] at hx
      rw [List.getElem?_append_left (by omega)] at hc
      exact step (hf j x c hx hc) (fun _ hk => hk)
    · rw [List.getElem?_append_right hge] at hx
      rw [List.getElem?_append_right (by omega), hl] at hc
      exact step (hf2 _ x c hx hc) hokp
theorem N_made {rows : List (List Value)} (hR : (raw d.sz).R e w1 base (fun k => k = W.heap.size) v1 rows) (hg : W.grownBy w1 none) (hat : ∃ b, v1.ownBlock = some b ∧ W.heap.size ≤ b) (hl : rows.length = xs.length) (hf : ∀ (j : Nat) (x : α) (c : List Value), xs[j]? = some x → rows[j]? = some c → FK d W okp x c)
    (hok : ∀ k, okp k → ok k) (hfresh : ok W.heap.size) : N d e w1 base ok v1 xs := by
  obtain ⟨b, hb, hle⟩ := hat
  refine ⟨fun k hk => by rw [hR.1 k hk]; exact hfresh, rows, hl, raw_tight hR, fun j x c hx hc => ?_⟩
  refine FK_mono (FK_step (FK_bound (hf j x c hx hc)) (fun k hk hlt => hg.block k hlt (by simp))) (fun k hk => ⟨hok k hk.1, fun he => ?_⟩)
  rw [hb] at he
  injection he with he
  have := hk.2
  omega
theorem N_written {rows : List (List Value)} {i : Int} {x' : α} {c' : List Value} (h0 : ∀ k, (Value.slice (some ⟨g, 0, none⟩) n cap).ownBlock = some k → ok k) (hl : rows.length = xs.length) (hf : ∀ (j : Nat) (x : α) (c : List Value), xs[j]? = some x → rows[j]? = some c → FK d W (fun k => ok k ∧ some k ≠ (Value.slice (some ⟨g, 0, none⟩) n cap).ownBlock) x c)
    (hR : (raw d.sz).R e w1 base (fun _ => True) (.slice (some ⟨g, 0, none⟩) n cap) (rows.set i.toNat c')) (hg : W.grownBy w1 (some g)) (hM : FK d W okp x' c') (hokp : ∀ k, okp k → ok k ∧ k ≠ g) : N d e w1 base ok (.slice (some ⟨g, 0, none⟩) n cap) (xs.set i.toNat x') := by
  have hgo : some g = (Value.slice (some ⟨g, 0, none⟩) n cap).ownBlock := by simp [Value.ownBlock]
  refine ⟨h0, rows.set i.toNat c', by rw [List.length_set, List.length_set, hl], raw_tight hR, fun j x c hx hc => ?_⟩
  have hjl : j < xs.length := by have := (List.getElem?_eq_some_iff.1 hx).1; rwa [List.length_set] at this
  by_cases hji : j = i.toNat
  · subst hji
    rw [List.getElem?_set_self hjl] at hx
    rw [List.getElem?_set_self (by omega)] at hc
    injection hx with hx
    injection hc with hc
    rw [← hx, ← hc]
    exact FK_mono (FK_step hM (fun k hk hlt => hg.block k hlt (fun he => (hokp k hk).2 (by injection he)))) (fun k hk => ⟨(hokp k hk).1, fun he => (hokp k hk).2 (by rw [← hgo] at he; injection he)⟩)
  · rw [List.getElem?_set_ne (Ne.symm hji)] at hx hc
    exact FK_step (hf j x c hx hc) (fun k hk hlt => hg.block k hlt (by rw [hgo]; exact hk.2))
theorem N_seg (h : N d e W base ok (.slice (some ⟨g, 0, none⟩) n cap) xs) (i : Int) (h0 : 0 ≤ i) (h1 : i < n) {c seg : List Value} {j : Nat} (hcl : c.length = d.sz) (hcc : ∀ j u, c[j]? = some u → W.cell? ⟨g, i.toNat * d.sz + j, none⟩ = some u)
    (hj : j + seg.length ≤ d.sz) {x' : α} (hM : FK d W okp x' (c.take j ++ seg ++ c.drop (j + seg.length))) (hokp : ∀ k, okp k → ok k ∧ k ≠ g) :
    N d e (W.setCells g (i.toNat * d.sz + j) seg) base ok (.slice (some ⟨g, 0, none⟩) n cap) (xs.set i.toNat x') ∧ W.grownBy (W.setCells g (i.toNat * d.sz + j) seg) (some g) := by
  obtain ⟨hown, rows, hl, hR, hf⟩ := h
  obtain ⟨h2, h3⟩ := R_seg (raw_any hR) i h0 h1 (c := c) (seg := seg) (j := j) (x' := c.take j ++ seg ++ c.drop (j + seg.length)) (okp := fun _ => False) hcl hcc hj ⟨rfl, d.K_len (FK_now hM), d.K_one (FK_now hM)⟩ (fun _ hk => hk.elim)
  exact ⟨N_written hown hl hf h2 h3 hM hokp, h3⟩
theorem reads_raw {Rr : α → List Value → Prop} {sz m : Nat} {A : Option Addr} (h : ReadsRow Rr sz W A m ys) (hR : ∀ x c, Rr x c → c.length = sz ∧ ∀ u ∈ c, u.oneCell' = true) :
    ∃ news : List (List Value), news.length = ys.length ∧ ReadsRow (fun x cs => cs = x ∧ cs.length = sz ∧ ∀ u ∈ cs, u.oneCell' = true) sz W A m news ∧ ∀ (j : Nat) (x : α) (c : List Value), ys[j]? = some x → news[j]? = some c → Rr x c := by
  rcases Nat.eq_zero_or_pos m with h0 | hp
  · have hy : ys = [] := List.eq_nil_of_length_eq_zero (h.1.trans h0)
    subst hy
    exact ⟨[], rfl, ⟨h0 ▸ rfl, h.2.1, fun hp => by omega⟩, fun j x c hx => by simp at hx⟩
  · obtain ⟨ad, rfl, _⟩ := h.2.2 hp
    obtain ⟨inner, hr, hc⟩ := ReadsRow.inner_ h
    refine ⟨chunks sz ys.length inner, chunks_length _ _ _, ⟨by rw [chunks_length]; exact h.1, h.2.1, fun _ => ⟨ad, rfl, fun j p hj => ?_⟩⟩, fun j x c hx hcc => ?_⟩
    · have hjl : j < ys.length := by have := (List.getElem?_eq_some_iff.1 hj).1; rwa [chunks_length] at this
      have hpe := chunks_get hj
      have hq := hR _ _ (hr.2 j _ (List.getElem?_eq_getElem hjl))
      rw [← hpe] at hq
      refine ⟨p, hq.1, ⟨rfl, hq⟩, fun i u hu => ?_⟩
      have hu2 : inner[j * sz + i]? = some u := by
        rw [hpe, List.getElem?_take] at hu
        split at hu
        · rw [List.getElem?_drop] at hu
          exact hu
        · cases hu
      exact hc _ u hu2
    · rw [chunks_get hcc]
      exact hr.2 j x hx
end
section
variable {P : Program} {ops : Array Oper} {rest : List Oper} {o : Oper} {a : Act} {Q : Exit → Act → World → Prop} {Kc : Act → World → Prop} {α : Type}
theorem N_append_rows (d : Kd α) {w0 W : World} (base : Nat) (hgd : o.guard = none) (s x : Operand) (t e : TypeId) (z : Value) (bytes : Nat)
    (ho : o.op = .call { callee := .builtin .append, args := #[s, x], argTypes := #[t, t] })
    (ht : P.underlying t = some (.slice e)) (hinfo : (P.info? e).map (fun i => (i.zero, i.size, i.bytes)) = some (some z, d.sz, bytes)) (hz : z.cells.size = d.sz) (hs0 : 0 < d.sz) (hb0 : 0 < bytes)
    (v : Value) (xs ys : List α) (A : Option Addr) (m c : Nat) (ok okp : Nat → Prop) (hs : a.eval s = v) (hx : a.eval x = .slice A m c)
    (HO : N d e W base ok v xs) (HR : F d W okp A m ys) (hokp : ∀ k, okp k → ok k ∧ some k ≠ v.ownBlock) (hfresh : ∀ k, W.heap.size ≤ k → ok k)
    (HB : Below base w0 W) (hbase : base ≤ W.heap.size) (hl : (xs.length + m) * bytes ≤ 140737488355328)
    (h : ∀ v1 w1, N d e w1 base ok v1 (xs ++ ys) → Below base w0 w1 → W.grownBy w1 v.ownBlock → (v1.ownBlock = v.ownBlock ∨ ∃ b, v1.ownBlock = some b ∧ W.heap.size ≤ b) → wpList P ops Q rest (a.put o.dst v1) w1) :
    wpList P ops Q (o :: rest) a W := by
  obtain ⟨h0, rows, hlr, hR, hf⟩ := HO
  obtain ⟨news, hnl, hnr, hnf⟩ := reads_raw (F_rows HR) (fun y c hk => ⟨d.K_len (FK_now hk), d.K_one (FK_now hk)⟩)
  refine R_append_rows (raw d.sz) base hgd s x t e z bytes ho ht hinfo hz hs0 hb0 v rows news A m c (fun _ => True) (fun _ => False) hs hx (raw_any hR) hnr (fun _ _ hk => hk) (fun _ hk => hk.elim) (fun _ _ => trivial) HB hbase (by rw [hlr]; exact hl) ?_
  intro v1 w1 hr hb hg hat
  exact h v1 w1 (N_appended h0 hlr hf hnl hnf hokp hfresh hr hg hat) hb hg hat
theorem N_lit (d : Kd α) {w0 W : World} (base e : Nat) (hgd : o.guard = none) {N' : Tmp} (_hd : o.dst = some N') {xs : List α} {inner : List Value} {ok okp : Nat → Prop}
    (hrun : (execOp a.eval o).run P W = .ok (.value (.slice (some ⟨W.heap.size, 0, none⟩) xs.length xs.length)) (W.alloc (.cells inner.toArray e)))
    (hrep : Reps (FK d W okp) d.sz xs inner) (hok : ∀ k, okp k → ok k) (hfresh : ok W.heap.size) (HB : Below base w0 W) (hbase : base ≤ W.heap.size) (hm : xs.length ≤ 9223372036854775807)
    (h : ∀ v1 w1, N d e w1 base ok v1 xs → Below base w0 w1 → W.grownBy w1 none → (∃ b, v1.ownBlock = some b ∧ W.heap.size ≤ b) → wpList P ops Q rest (a.put o.dst v1) w1) :
    wpList P ops Q (o :: rest) a W := by
  refine R_lit (raw d.sz) base e hgd _hd (xs := chunks d.sz xs.length inner) (inner := inner) (ok := fun k => k = W.heap.size) (okp := fun _ => False) (by rw [chunks_length]; exact hrun) (reps_raw hrep (fun y c hk => ⟨d.K_len (FK_now hk), d.K_one (FK_now hk)⟩)) (fun _ hk => hk.elim) rfl HB hbase (by rw [chunks_length]; exact hm) ?_
  intro v1 w1 hr hb hg hat
  exact h v1 w1 (N_made hr hg hat (chunks_length _ _ _) (fun j y c hy hc => by rw [chunks_get hc]; exact hrep.2 j y hy) hok hfresh) hb hg hat
end
end Kd
end Go.Proofs.YtbhakljebcmocaaW.PrintWords
end
section
namespace Go.Proofs.YtbhakljebcmocaaW.PrintMore
open Go.RowKit Go.Proofs.YtbhakljebcmocaaW.PrintWords
namespace Kd
open Go.Proofs.YtbhakljebcmocaaW.PrintWords.Kd
end Kd
namespace Kd
open Go.Proofs.YtbhakljebcmocaaW.PrintWords.Kd
section
variable {α : Type} {d : Kd α} {e base g N : Nat} {ok : Nat → Prop} {W w1 : World} {u v : Value} {xs : List α}
end
end Kd
theorem max2_int (k k' : IntKind) (x y : Int) : Builtin.max2 (.int k x) (.int k' y) = pure (.int k (if x < y then y else x)) := by simp only [Builtin.max2, gt_iff_lt]
theorem max_two (ats : Array TypeId) (ty : TypeId) (a b : Value) : Builtin.max_ ats ty #[a, b] = (Builtin.max2 a b >>= fun s => pure s) := by simp only [Builtin.max_, List.foldlM_cons, List.foldlM_nil]
end Go.Proofs.YtbhakljebcmocaaW.PrintMore
namespace Go.Proofs.YtbhakljebcmocaaW.PrintWords
open Go.RowKit
section
variable {P : Program} {ops : Array Oper} {rest : List Oper} {o : Oper} {a : Act} {Q : Exit → Act → World → Prop} {W : World}
theorem gate_callee {f : FuncId} {as_ : Array Operand} {ts : Array TypeId} (_ho : o.op = .call { callee := .value (.func f), args := as_, argTypes := ts }) (h : wpList P ops Q (o :: rest) a W) : wpList P ops Q (o :: rest) a W := h
theorem gate_builtin {b : Builtin} {xs : Array Operand} {ts : Array TypeId} (_ho : o.op = .call { callee := .builtin b, args := xs, argTypes := ts }) (h : wpList P ops Q (o :: rest) a W) : wpList P ops Q (o :: rest) a W := h
end
namespace Kd
section
variable {α : Type} {d : Kd α} {e base : Nat} {ok : Nat → Prop} {W w1 : World} {v : Value} {xs : List α}
end
section
variable {α : Type} {d : Kd α} {e base g n cap : Nat} {ok oki okp : Nat → Prop} {W : World} {xs : List α} {i : Int} {c : List Value}
end
section
variable {α : Type} {d : Kd α} {e base b b' g N : Nat} {ok ok1 : Nat → Prop} {W W2 w1 : World} {u v : Value} {xs ys : List α} {S : Nat → Prop}
end
end Kd
end Go.Proofs.YtbhakljebcmocaaW.PrintWords
namespace Go.Proofs.YtbhakljebcmocaaW.PrintWords
open Go.RowKit
namespace Kd
def V {α : Type} (d : Kd α) (_e : Nat) (W : World) (_base : Nat) (ok : Nat → Prop) (v : Value) (xs : List α) : Prop := ∃ A c, v = .slice A xs.length c ∧ xs.length ≤ c ∧ F d W ok A xs.length xs
section
variable {α β : Type} {d : Kd α} {e base base' n m c g N' lo hi : Nat} {ok ok' S : Nat → Prop} {w W w1 : World} {A : Option Addr} {ad : Addr} {u v v1 : Value} {xs : List α}
theorem V_map (h : V d e W base ok v xs) (hF : ∀ A, F d W ok A xs.length xs → F d w1 ok' A xs.length xs) : V d e w1 base' ok' v xs := by
 obtain ⟨A, c, hv, hl, hf⟩ := h
 exact ⟨A, c, hv, hl, hF A hf⟩
theorem V_mk (hl : xs.length ≤ c) (hf : F d W ok A xs.length xs) : V d e W base ok (.slice A xs.length c) xs := ⟨A, c, rfl, hl, hf⟩
theorem V_at (h : V d e W base ok (.slice A n c) xs) : n = xs.length ∧ n ≤ c ∧ F d W ok A xs.length xs := by
 obtain ⟨A', c', hv, hl, hf⟩ := h
 injection hv with ha hn hc
 subst ha; subst hc
 exact ⟨hn, by rw [hn]; exact hl, hf⟩
theorem V_reads' (h : V d e W base ok (.slice A n c) xs) : n = xs.length ∧ n ≤ c ∧ d.C W A xs.length xs := ⟨(V_at h).1, (V_at h).2.1, F_now (V_at h).2.2⟩
theorem V_F (h : V d e W base ok (.slice A n c) xs) : F d W ok A n xs := by
 obtain ⟨hn, _, hf⟩ := V_at h
 rw [hn]
 exact hf
theorem V_mono (h : V d e W base ok v xs) (hok : ∀ k, ok k → ok' k) : V d e W base ok' v xs := V_map h (fun _ hf => F_mono hf hok)
theorem V_after (h : V d e W base (fun k => ok k ∧ some k ≠ u.ownBlock) v xs) (hg : W.grownBy w1 u.ownBlock) (hat : v1.ownBlock = u.ownBlock ∨ ∃ b, v1.ownBlock = some b ∧ W.heap.size ≤ b) : V d e w1 base (fun k => ok k ∧ some k ≠ v1.ownBlock) v xs := V_map h (fun _ hf => F_after hf hg hat)
theorem V_afterv (h : V d e W base (fun k => ok k ∧ some k ≠ v.ownBlock) u xs) (hg : W.grownBy w1 v.ownBlock) (hat : v1.ownBlock = v.ownBlock ∨ ∃ b, v1.ownBlock = some b ∧ W.heap.size ≤ b) : V d e w1 base (fun k => ok k ∧ some k ≠ v1.ownBlock) u xs := V_after h hg hat
theorem N_afterv (h : N d e W base (fun k => ok k ∧ some k ≠ v.ownBlock) u xs) (hg : W.grownBy w1 v.ownBlock) (hat : v1.ownBlock = v.ownBlock ∨ ∃ b, v1.ownBlock = some b ∧ W.heap.size ≤ b) : N d e w1 base (fun k => ok k ∧ some k ≠ v1.ownBlock) u xs := N_after h hg hat
theorem V_elder' (h : V d e W base ok v xs) (hbase : ∀ k, u.ownBlock = some k → W.heap.size ≤ k) (hb : Below W.heap.size W w1) : V d e w1 base (fun k => ok k ∧ some k ≠ u.ownBlock) v xs := V_map h (fun _ hf => F_elder' hf hbase hb)
theorem F_cut (h : F d W ok A xs.length xs) (hm : m ≤ xs.length) (hc : xs.length ≤ c) : F d W ok (if c = m then A else A.map (·.add (m * d.sz))) (xs.drop m).length (xs.drop m) := F_imp h (fun _ hC => C_drop hC hm hc)
theorem FK_slice_open {l : List α} {cs : List Value} (h : FK (Kd.slice e d) W ok l cs) : ∃ A c, cs = [.slice A l.length c] ∧ l.length ≤ c ∧ F d W ok A l.length l := by
 obtain ⟨A, c, rfl, hl, _⟩ := FK_now h
 refine ⟨A, c, rfl, hl, fun W' hW => ?_⟩
 obtain ⟨A', c', he, _, g'⟩ := h W' hW
 injection he with he _
 injection he with ha _ _
 rw [ha]
 exact g'
theorem FK_slice_mk {l : List α} (hl : l.length ≤ c) (hf : F d W ok A l.length l) : FK (Kd.slice e d) W ok l [.slice A l.length c] := fun W' hW => ⟨A, c, rfl, hl, hf W' hW⟩
end
end Kd
end Go.Proofs.YtbhakljebcmocaaW.PrintWords
end
section
namespace Go.Proofs.Ytbhakljebcmocaa.PBoundKeeps
open Go.RowKit Go.Proofs.YtbhakljebcmocaaW.PrintWords Go.Proofs.YtbhakljebcmocaaW.PrintLast Go.Proofs.YtbhakljebcmocaaW.PrintMore
set_option linter.unusedVariables false
set_option linter.unusedSimpArgs false
theorem info50 : (Try.prog.info? 50).map (fun i => (i.zero, i.size, i.bytes)) = some (some (.slice none 0 0), 1, 24) := by kernel_rfl
theorem info129 : (Try.prog.info? 129).map (fun i => (i.zero, i.size, i.bytes)) = some (some (.agg #[(.int .u64 0), (.int .u64 0)]), 2, 16) := by kernel_rfl
structure S48 where
 f0 : Int
 f1 : Int
 f2 : Int
 f3 : Int
def z48 : S48 := ⟨(0 : Int), (0 : Int), (0 : Int), (0 : Int)⟩
def k48 : Kd S48 := Kd.iso (Kd.pair (Kd.int .i64) (Kd.pair (Kd.int .u64) (Kd.pair (Kd.int .u64) (Kd.int .i64)))) (fun x : S48 => (x.f0, x.f1, x.f2, x.f3))
theorem k48_open {w : World} {x : S48} {cs : List Value} (h : k48.K w x cs) : cs = [.int .i64 x.f0, .int .u64 x.f1, .int .u64 x.f2, .int .i64 x.f3] := by
 obtain ⟨_, _, rfl, rfl, ⟨_, _, rfl, rfl, ⟨_, _, rfl, rfl, rfl⟩⟩⟩ := h
 exact rfl
theorem k48_mk (w : World) (x : S48)  : k48.K w x [.int .i64 x.f0, .int .u64 x.f1, .int .u64 x.f2, .int .i64 x.f3] := ⟨[.int .i64 x.f0], [.int .u64 x.f1, .int .u64 x.f2, .int .i64 x.f3], rfl, rfl, ⟨[.int .u64 x.f1], [.int .u64 x.f2, .int .i64 x.f3], rfl, rfl, ⟨[.int .u64 x.f2], [.int .i64 x.f3], rfl, rfl, rfl⟩⟩⟩
structure S129 where
 f0 : Int
 f1 : Int
def z129 : S129 := ⟨(0 : Int), (0 : Int)⟩
def k129 : Kd S129 := Kd.iso (Kd.pair (Kd.int .u64) (Kd.int .u64)) (fun x : S129 => (x.f0, x.f1))
theorem k129_open {w : World} {x : S129} {cs : List Value} (h : k129.K w x cs) : cs = [.int .u64 x.f0, .int .u64 x.f1] := by
 obtain ⟨_, _, rfl, rfl, rfl⟩ := h
 exact rfl
theorem k129_mk (w : World) (x : S129)  : k129.K w x [.int .u64 x.f0, .int .u64 x.f1] := ⟨[.int .u64 x.f0], [.int .u64 x.f1], rfl, rfl, rfl⟩
theorem k129_mkM (w : World) (base : Nat) (ok : Nat → Prop) (x : S129)  : k129.M w base ok x [.int .u64 x.f0, .int .u64 x.f1] := ⟨[.int .u64 x.f0], [.int .u64 x.f1], rfl, rfl, rfl⟩
def rd_T129 (xs : List S129) (i : Int) : S129 := xs.getD i.toNat z129
theorem at_T129 {w : World} {A : Option Addr} {n : Nat} {xs : List S129} (h : Kd.C k129 w A n xs) (i : Int) (h0 : 0 ≤ i) (h1 : i < n) : ∃ ad , A = some ad ∧ w.cell? (ad.add (i.toNat * 2)) = some (.int .u64 (rd_T129 xs i).f0) ∧ w.cell? ⟨(ad.add (i.toNat * 2)).block, (ad.add (i.toNat * 2)).off + 1, none⟩ = some (.int .u64 (rd_T129 xs i).f1) := by
 obtain ⟨ad, c, e, _, hK, hc0⟩ := Kd.C_get h z129 i h0 h1
 have hc : ∀ j u, c[j]? = some u → w.cell? (ad.add (i.toNat * 2 + j)) = some u := hc0
 obtain rfl := k129_open hK
 exact ⟨ad, e, hc 0 _ rfl, by rw [← add_field _ _ 1 (by omega)]; exact hc 1 _ rfl⟩
def rd_L5 (xs : List (List S129)) (i : Int) : (List S129) := xs.getD i.toNat ([] : List S129)
theorem at_L5 {w : World} {A : Option Addr} {n : Nat} {xs : List (List S129)} (h : Kd.C (Kd.slice 129 k129) w A n xs) (i : Int) (h0 : 0 ≤ i) (h1 : i < n) : ∃ ad A0 c0, A = some ad ∧ w.cell? (ad.add i.toNat) = some (.slice A0 (rd_L5 xs i).length c0) ∧ (rd_L5 xs i).length ≤ c0 ∧ k129.C w A0 (rd_L5 xs i).length (rd_L5 xs i) := by
 obtain ⟨ad, c, e, _, hK, hc0⟩ := Kd.C_get h ([] : List S129) i h0 h1
 have hc : ∀ j u, c[j]? = some u → w.cell? (ad.add (i.toNat * 1 + j)) = some u := hc0
 obtain ⟨A0, c0, rfl, l0, g0⟩ := hK
 exact ⟨ad, A0, c0, e, by have hq := hc 0 _ rfl; rwa [Nat.mul_one, Nat.add_zero] at hq, l0, g0⟩
structure S52 where
 f0 : Int
 f1 : Bool
 f2 : Int
 f3 : (List S129)
def z52 : S52 := ⟨(0 : Int), false, (0 : Int), ([] : List S129)⟩
def k52 : Kd S52 := Kd.iso (Kd.pair (Kd.int .i64) (Kd.pair Kd.bool (Kd.pair (Kd.int .u64) (Kd.slice 129 k129)))) (fun x : S52 => (x.f0, x.f1, x.f2, x.f3))
theorem k52_open {w : World} {x : S52} {cs : List Value} (h : k52.K w x cs) : ∃ A3 c3, cs = [.int .i64 x.f0, .bool x.f1, .int .u64 x.f2, .slice A3 x.f3.length c3] ∧ x.f3.length ≤ c3 ∧ k129.C w A3 x.f3.length x.f3 := by
 obtain ⟨_, _, rfl, rfl, ⟨_, _, rfl, rfl, ⟨_, _, rfl, rfl, ⟨A3, c3, rfl, l3, g3⟩⟩⟩⟩ := h
 exact ⟨A3, c3, rfl, l3, g3⟩
theorem k52_mk (w : World) (x : S52) {A3 : Option Addr} {c3 : Nat} (l3 : x.f3.length ≤ c3) (g3 : k129.C w A3 x.f3.length x.f3) : k52.K w x [.int .i64 x.f0, .bool x.f1, .int .u64 x.f2, .slice A3 x.f3.length c3] := ⟨[.int .i64 x.f0], [.bool x.f1, .int .u64 x.f2, .slice A3 x.f3.length c3], rfl, rfl, ⟨[.bool x.f1], [.int .u64 x.f2, .slice A3 x.f3.length c3], rfl, rfl, ⟨[.int .u64 x.f2], [.slice A3 x.f3.length c3], rfl, rfl, ⟨A3, c3, rfl, l3, g3⟩⟩⟩⟩
structure S54 where
 f0 : Int
 f1 : Int
 f2 : Int
 f3 : Int
 f4 : Int
 f5 : S48
 f6 : S52
def z54 : S54 := ⟨(0 : Int), (0 : Int), (0 : Int), (0 : Int), (0 : Int), z48, z52⟩
def k54 : Kd S54 := Kd.iso (Kd.pair (Kd.int .i64) (Kd.pair (Kd.int .i64) (Kd.pair (Kd.int .i64) (Kd.pair (Kd.int .i64) (Kd.pair (Kd.int .i64) (Kd.pair k48 k52)))))) (fun x : S54 => (x.f0, x.f1, x.f2, x.f3, x.f4, x.f5, x.f6))
theorem k54_open {w : World} {x : S54} {cs : List Value} (h : k54.K w x cs) : ∃ A12 c12, cs = [.int .i64 x.f0, .int .i64 x.f1, .int .i64 x.f2, .int .i64 x.f3, .int .i64 x.f4, .int .i64 x.f5.f0, .int .u64 x.f5.f1, .int .u64 x.f5.f2, .int .i64 x.f5.f3, .int .i64 x.f6.f0, .bool x.f6.f1, .int .u64 x.f6.f2, .slice A12 x.f6.f3.length c12] ∧ x.f6.f3.length ≤ c12 ∧ k129.C w A12 x.f6.f3.length x.f6.f3 := by
 obtain ⟨_, _, rfl, rfl, ⟨_, _, rfl, rfl, ⟨_, _, rfl, rfl, ⟨_, _, rfl, rfl, ⟨_, _, rfl, rfl, ⟨_, _, rfl, s5, s9⟩⟩⟩⟩⟩⟩ := h
 obtain rfl := k48_open s5
 obtain ⟨A12, c12, rfl, l12, g12⟩ := k52_open s9
 exact ⟨A12, c12, rfl, l12, g12⟩
theorem k54_mk (w : World) (x : S54) {A12 : Option Addr} {c12 : Nat} (l12 : x.f6.f3.length ≤ c12) (g12 : k129.C w A12 x.f6.f3.length x.f6.f3) : k54.K w x [.int .i64 x.f0, .int .i64 x.f1, .int .i64 x.f2, .int .i64 x.f3, .int .i64 x.f4, .int .i64 x.f5.f0, .int .u64 x.f5.f1, .int .u64 x.f5.f2, .int .i64 x.f5.f3, .int .i64 x.f6.f0, .bool x.f6.f1, .int .u64 x.f6.f2, .slice A12 x.f6.f3.length c12] := ⟨[.int .i64 x.f0], [.int .i64 x.f1, .int .i64 x.f2, .int .i64 x.f3, .int .i64 x.f4, .int .i64 x.f5.f0, .int .u64 x.f5.f1, .int .u64 x.f5.f2, .int .i64 x.f5.f3, .int .i64 x.f6.f0, .bool x.f6.f1, .int .u64 x.f6.f2, .slice A12 x.f6.f3.length c12], rfl, rfl, ⟨[.int .i64 x.f1], [.int .i64 x.f2, .int .i64 x.f3, .int .i64 x.f4, .int .i64 x.f5.f0, .int .u64 x.f5.f1, .int .u64 x.f5.f2, .int .i64 x.f5.f3, .int .i64 x.f6.f0, .bool x.f6.f1, .int .u64 x.f6.f2, .slice A12 x.f6.f3.length c12], rfl, rfl, ⟨[.int .i64 x.f2], [.int .i64 x.f3, .int .i64 x.f4, .int .i64 x.f5.f0, .int .u64 x.f5.f1, .int .u64 x.f5.f2, .int .i64 x.f5.f3, .int .i64 x.f6.f0, .bool x.f6.f1, .int .u64 x.f6.f2, .slice A12 x.f6.f3.length c12], rfl, rfl, ⟨[.int .i64 x.f3], [.int .i64 x.f4, .int .i64 x.f5.f0, .int .u64 x.f5.f1, .int .u64 x.f5.f2, .int .i64 x.f5.f3, .int .i64 x.f6.f0, .bool x.f6.f1, .int .u64 x.f6.f2, .slice A12 x.f6.f3.length c12], rfl, rfl, ⟨[.int .i64 x.f4], [.int .i64 x.f5.f0, .int .u64 x.f5.f1, .int .u64 x.f5.f2, .int .i64 x.f5.f3, .int .i64 x.f6.f0, .bool x.f6.f1, .int .u64 x.f6.f2, .slice A12 x.f6.f3.length c12], rfl, rfl, ⟨[.int .i64 x.f5.f0, .int .u64 x.f5.f1, .int .u64 x.f5.f2, .int .i64 x.f5.f3], [.int .i64 x.f6.f0, .bool x.f6.f1, .int .u64 x.f6.f2, .slice A12 x.f6.f3.length c12], rfl, (k48_mk w x.f5 ), (k52_mk w x.f6 l12 g12)⟩⟩⟩⟩⟩⟩
def rd_T54 (xs : List S54) (i : Int) : S54 := xs.getD i.toNat z54
theorem at_T54 {w : World} {A : Option Addr} {n : Nat} {xs : List S54} (h : Kd.C k54 w A n xs) (i : Int) (h0 : 0 ≤ i) (h1 : i < n) : ∃ ad A12 c12, A = some ad ∧ w.cell? (ad.add (i.toNat * 13)) = some (.int .i64 (rd_T54 xs i).f0) ∧ w.cell? ⟨(ad.add (i.toNat * 13)).block, (ad.add (i.toNat * 13)).off + 1, none⟩ = some (.int .i64 (rd_T54 xs i).f1) ∧ w.cell? ⟨(ad.add (i.toNat * 13)).block, (ad.add (i.toNat * 13)).off + 2, none⟩ = some (.int .i64 (rd_T54 xs i).f2) ∧ w.cell? ⟨(ad.add (i.toNat * 13)).block, (ad.add (i.toNat * 13)).off + 3, none⟩ = some (.int .i64 (rd_T54 xs i).f3) ∧ w.cell? ⟨(ad.add (i.toNat * 13)).block, (ad.add (i.toNat * 13)).off + 4, none⟩ = some (.int .i64 (rd_T54 xs i).f4) ∧ w.cell? ⟨(ad.add (i.toNat * 13)).block, (ad.add (i.toNat * 13)).off + 5, none⟩ = some (.int .i64 (rd_T54 xs i).f5.f0) ∧ w.cell? ⟨(ad.add (i.toNat * 13)).block, (ad.add (i.toNat * 13)).off + 6, none⟩ = some (.int .u64 (rd_T54 xs i).f5.f1) ∧ w.cell? ⟨(ad.add (i.toNat * 13)).block, (ad.add (i.toNat * 13)).off + 7, none⟩ = some (.int .u64 (rd_T54 xs i).f5.f2) ∧ w.cell? ⟨(ad.add (i.toNat * 13)).block, (ad.add (i.toNat * 13)).off + 8, none⟩ = some (.int .i64 (rd_T54 xs i).f5.f3) ∧ w.cell? ⟨(ad.add (i.toNat * 13)).block, (ad.add (i.toNat * 13)).off + 9, none⟩ = some (.int .i64 (rd_T54 xs i).f6.f0) ∧ w.cell? ⟨(ad.add (i.toNat * 13)).block, (ad.add (i.toNat * 13)).off + 10, none⟩ = some (.bool (rd_T54 xs i).f6.f1) ∧ w.cell? ⟨(ad.add (i.toNat * 13)).block, (ad.add (i.toNat * 13)).off + 11, none⟩ = some (.int .u64 (rd_T54 xs i).f6.f2) ∧ w.cell? ⟨(ad.add (i.toNat * 13)).block, (ad.add (i.toNat * 13)).off + 12, none⟩ = some (.slice A12 (rd_T54 xs i).f6.f3.length c12) ∧ (rd_T54 xs i).f6.f3.length ≤ c12 ∧ k129.C w A12 (rd_T54 xs i).f6.f3.length (rd_T54 xs i).f6.f3 := by
 obtain ⟨ad, c, e, _, hK, hc0⟩ := Kd.C_get h z54 i h0 h1
 have hc : ∀ j u, c[j]? = some u → w.cell? (ad.add (i.toNat * 13 + j)) = some u := hc0
 obtain ⟨A12, c12, rfl, l12, g12⟩ := k54_open hK
 exact ⟨ad, A12, c12, e, hc 0 _ rfl, by rw [← add_field _ _ 1 (by omega)]; exact hc 1 _ rfl, by rw [← add_field _ _ 2 (by omega)]; exact hc 2 _ rfl, by rw [← add_field _ _ 3 (by omega)]; exact hc 3 _ rfl, by rw [← add_field _ _ 4 (by omega)]; exact hc 4 _ rfl, by rw [← add_field _ _ 5 (by omega)]; exact hc 5 _ rfl, by rw [← add_field _ _ 6 (by omega)]; exact hc 6 _ rfl, by rw [← add_field _ _ 7 (by omega)]; exact hc 7 _ rfl, by rw [← add_field _ _ 8 (by omega)]; exact hc 8 _ rfl, by rw [← add_field _ _ 9 (by omega)]; exact hc 9 _ rfl, by rw [← add_field _ _ 10 (by omega)]; exact hc 10 _ rfl, by rw [← add_field _ _ 11 (by omega)]; exact hc 11 _ rfl, by rw [← add_field _ _ 12 (by omega)]; exact hc 12 _ rfl, l12, g12⟩
structure S23 where
 f0 : Int
 f1 : Int
 f2 : Int
 f3 : Int
 f4 : Int
def rd_L10 (xs : List (List S48)) (i : Int) : (List S48) := xs.getD i.toNat ([] : List S48)
theorem at_L10 {w : World} {A : Option Addr} {n : Nat} {xs : List (List S48)} (h : Kd.C (Kd.slice 48 k48) w A n xs) (i : Int) (h0 : 0 ≤ i) (h1 : i < n) : ∃ ad A0 c0, A = some ad ∧ w.cell? (ad.add i.toNat) = some (.slice A0 (rd_L10 xs i).length c0) ∧ (rd_L10 xs i).length ≤ c0 ∧ k48.C w A0 (rd_L10 xs i).length (rd_L10 xs i) := by
 obtain ⟨ad, c, e, _, hK, hc0⟩ := Kd.C_get h ([] : List S48) i h0 h1
 have hc : ∀ j u, c[j]? = some u → w.cell? (ad.add (i.toNat * 1 + j)) = some u := hc0
 obtain ⟨A0, c0, rfl, l0, g0⟩ := hK
 exact ⟨ad, A0, c0, e, by have hq := hc 0 _ rfl; rwa [Nat.mul_one, Nat.add_zero] at hq, l0, g0⟩
structure S120 where
 f0 : Int
 f1 : S48
def z120 : S120 := ⟨(0 : Int), z48⟩
structure S125 where
 f0 : Int
 f1 : Int
def z125 : S125 := ⟨(0 : Int), (0 : Int)⟩
end Go.Proofs.Ytbhakljebcmocaa.PBoundKeeps
end
section
namespace Go.Proofs.Ytbhakljebcmocaa.PBoundKeeps
open Go.RowKit Go.Proofs.YtbhakljebcmocaaW.PrintWords Go.Proofs.YtbhakljebcmocaaW.PrintLast Go.Proofs.YtbhakljebcmocaaW.PrintMore
set_option linter.unusedVariables false
set_option linter.unusedSimpArgs false
theorem wq_add (g i j : Nat) : (⟨g, i, none⟩ : Addr).add j = ⟨g, i + j, none⟩ := by unfold Addr.add; split <;> simp_all
def wqPut (cs : Array Value) (k : Nat) : List Value → Array Value
 | [] => cs
 | v :: r => wqPut (cs.setIfInBounds k v) (k + 1) r
theorem wq_grown_set {W W1 : World} {g j : Nat} (h : W.grownBy W1 (some g)) (v : Value) : W.grownBy (W1.setCell ⟨g, j, none⟩ v) (some g) :=
 ⟨h.os, h.tape, h.output, Nat.le_trans h.size (by simp), fun k hk hne => (Below.heap_setCell W1 ⟨g, j, none⟩ v k (fun e => hne (by rw [e]))).trans (h.block k hk hne)⟩
theorem wq_grown_self (W : World) (g : Nat) : W.grownBy W (some g) := ⟨rfl, rfl, rfl, Nat.le_refl _, fun _ _ _ => rfl⟩
theorem wq_grown_trans {a b c : World} {g : Nat} (h : a.grownBy b (some g)) (k : b.grownBy c (some g)) : a.grownBy c (some g) :=
 ⟨k.os.trans h.os, k.tape.trans h.tape, k.output.trans h.output, Nat.le_trans h.size k.size, fun j hj hne => (k.block j (Nat.lt_of_lt_of_le hj h.size) hne).trans (h.block j hj hne)⟩
theorem wq_stores {P : Program} (g i : Nat) (t : TypeId) : ∀ (vs : List Value) (j : Nat) (w : World) (cs : Array Value), w.heap[g]? = some (.cells cs t (0, 0)) → i + j + vs.length ≤ cs.size → (∀ v, v ∈ vs → v.oneCell' = true) →
    ∃ w', (storeCells ⟨g, i, none⟩ vs j).run P w = .ok () w' ∧ w'.heap[g]? = some (.cells (wqPut cs (i + j) vs) t (0, 0)) ∧ w.grownBy w' (some g) := by
  intro vs
  induction vs with
  | nil => exact fun j w cs hb _ _ => ⟨w, rfl, hb, wq_grown_self w g⟩
  | cons v r ih =>
    intro j w cs hb hsz hv
    simp only [List.length_cons] at hsz
    have hc : w.cell? ⟨g, i + j, none⟩ = some (cs[i + j]'(by omega)) := by rw [blk_cell hb]; simp
    have hf : w.frozen? ⟨g, i + j, none⟩ = false := blk_frozen hb (i + j)
    have hb1 : (w.setCell ⟨g, i + j, none⟩ v).heap[g]? = some (.cells (cs.setIfInBounds (i + j) v) t (0, 0)) := heap_setCell_same w g (i + j) cs t v hb
    obtain ⟨w', h1, h2, h3⟩ := ih (j + 1) _ _ hb1 (by simp only [Array.size_setIfInBounds]; omega) (fun u hu => hv u (List.mem_cons_of_mem _ hu))
    refine ⟨w', ?_, h2, wq_grown_trans (wq_grown_set (wq_grown_self w g) v) h3⟩
    unfold storeCells
    rw [Sem.run_bind, wq_add, run_store P w ⟨g, i + j, none⟩ v _ (hv v List.mem_cons_self), hc]
    simp only [hf, Bool.false_eq_true, if_false, Result.andThen_ok]
    exact h1
theorem wq_storeAt {P : Program} (ty : TypeId) (v : Value) (vs : List Value) (hvc : v.cells.toList = vs) {k : Nat} (hi : (P.info? ty).map (·.size) = some k) (hk : vs.length = k) (h1 : vs.all (fun u => u.oneCell') = true)
    {g i : Nat} {t : TypeId} {cs cs' : Array Value} {w : World} (hb : w.heap[g]? = some (.cells cs t (0, 0))) (hsz : i + k ≤ cs.size) (hcs : wqPut cs i vs = cs') :
    ∃ w', (Instr.storeAt ty (.pointer (some ⟨g, i, none⟩)) v).run P w = .ok () w' ∧ w'.heap[g]? = some (.cells cs' t (0, 0)) ∧ w.grownBy w' (some g) := by
  obtain ⟨w', e1, e2, e3⟩ := wq_stores (P := P) g i t vs 0 w cs hb (by omega) (by simpa [List.all_eq_true] using h1)
  rw [Nat.add_zero, hcs] at e2
  refine ⟨w', ?_, e2, e3⟩
  have hl : v.cells.size = k := by rw [← hk, ← hvc, Array.length_toList]
  cases hq : P.info? ty with
  | none => simp [hq] at hi
  | some q =>
    have hs : q.size = k := by simpa [hq] using hi
    subst hvc
    simp [Instr.storeAt, Instr.sureAddr, storeVar, Sem.run_bind, sizeOf, typeInfo, hq, hs, hl, e1]
theorem wq_loads {P : Program} (w : World) (g i : Nat) (cs : Array Value) (t : TypeId) (k : Nat) (vs : List Value) (hb : w.heap[g]? = some (.cells cs t (0, 0))) (hv : (cs.toList.drop i).take k = vs) (hk : vs.length = k) :
    (loadCells ⟨g, i, none⟩ k).run P w = .ok vs.toArray w := by
  rw [← hk]
  exact run_loadCells_list (P := P) w ⟨g, i, none⟩ vs (fun j v h => by
    rw [wq_add, blk_cell hb, ← h, ← hv]
    have hj : j < vs.length := (List.getElem?_eq_some_iff.mp h).1
    rw [List.getElem?_take, if_pos (by omega), List.getElem?_drop, Array.getElem?_toList])
theorem wq_load_agg {P : Program} (ty : TypeId) {d : TypeDesc} {k : Nat} (hu : P.underlying ty = some d) (hd : (match d with | .struct _ | .array _ _ => true | _ => false) = true) (hi : (P.info? ty).map (·.size) = some k)
    {g i : Nat} {t : TypeId} {cs : Array Value} {w : World} {vs : List Value} (hb : w.heap[g]? = some (.cells cs t (0, 0))) (hv : (cs.toList.drop i).take k = vs) (hk : vs.length = k) :
    (Instr.loadAt ty (.pointer (some ⟨g, i, none⟩))).run P w = .ok (.agg vs.toArray) w := by
  cases hq : P.info? ty with
  | none => simp [hq] at hi
  | some q =>
    have hs : q.size = k := by simpa [hq] using hi
    have hagg : (isAgg ty).run P w = .ok true w := by
      unfold isAgg
      rw [Sem.run_bind, run_underlying hu w]
      cases d <;> simp_all
    simp [Instr.loadAt, Instr.sureAddr, loadVar, Sem.run_bind, hagg, sizeOf, typeInfo, hq, hs, wq_loads w g i cs t k vs hb hv hk]
theorem wq_load_one {P : Program} (ty : TypeId) {d : TypeDesc} (hu : P.underlying ty = some d) (hd : (match d with | .struct _ | .array _ _ => true | _ => false) = false)
    {g i : Nat} {t : TypeId} {cs : Array Value} {w : World} {v : Value} (hb : w.heap[g]? = some (.cells cs t (0, 0))) (hv : cs[i]? = some v) :
    (Instr.loadAt ty (.pointer (some ⟨g, i, none⟩))).run P w = .ok v w := by
  have hagg : (isAgg ty).run P w = .ok false w := by
    unfold isAgg
    rw [Sem.run_bind, run_underlying hu w]
    cases d <;> simp_all
  have hc : w.cell? ⟨g, i, none⟩ = some v := (blk_cell hb i).trans hv
  simp [Instr.loadAt, Instr.sureAddr, loadVar, Sem.run_bind, hagg, load, Sem.run, hc]
section
variable {P : Program} {ops : Array Oper} {rest : List Oper} {o : Oper} {a : Act} {Q : Exit → Act → World → Prop}
theorem wq_run_loadA {W : World} {ty : TypeId} {p : Operand} {d : TypeDesc} {k g i : Nat} {t : TypeId} {cs : Array Value} {vs : List Value} (ho : o.op = .load ty p) (hp : a.eval p = .pointer (some ⟨g, i, none⟩)) (hu : P.underlying ty = some d) (hd : (match d with | .struct _ | .array _ _ => true | _ => false) = true) (hi : (P.info? ty).map (·.size) = some k)
    (hb : W.heap[g]? = some (.cells cs t (0, 0))) (hv : (cs.toList.drop i).take k = vs) (hk : vs.length = k) : (execOp a.eval o).run P W = .ok (.value (.agg vs.toArray)) W := by
  unfold execOp
  simp only [ho, hp, Sem.run_bind, wq_load_agg ty hu hd hi hb hv hk, Result.andThen_ok, Sem.run_pure]
theorem wq_run_load1 {W : World} {ty : TypeId} {p : Operand} {d : TypeDesc} {g i : Nat} {t : TypeId} {cs : Array Value} {v : Value} (ho : o.op = .load ty p) (hp : a.eval p = .pointer (some ⟨g, i, none⟩)) (hu : P.underlying ty = some d) (hd : (match d with | .struct _ | .array _ _ => true | _ => false) = false)
    (hb : W.heap[g]? = some (.cells cs t (0, 0))) (hv : cs[i]? = some v) : (execOp a.eval o).run P W = .ok (.value v) W := by
  unfold execOp
  simp only [ho, hp, Sem.run_bind, wq_load_one ty hu hd hb hv, Result.andThen_ok, Sem.run_pure]
theorem wq_run_store {W : World} {ty : TypeId} {p x : Operand} {g i k : Nat} {t : TypeId} {v : Value} {cs cs' : Array Value} {vs : List Value} (ho : o.op = .store ty p x) (hp : a.eval p = .pointer (some ⟨g, i, none⟩)) (hx : a.eval x = v) (hvc : v.cells.toList = vs) (hi : (P.info? ty).map (·.size) = some k) (hk : vs.length = k) (h1 : vs.all (fun u => u.oneCell') = true)
    (hb : W.heap[g]? = some (.cells cs t (0, 0))) (hsz : i + k ≤ cs.size) (hcs : wqPut cs i vs = cs') : ∃ w', (execOp a.eval o).run P W = .ok .skip w' ∧ w'.heap[g]? = some (.cells cs' t (0, 0)) ∧ W.grownBy w' (some g) := by
  obtain ⟨w', e1, e2, e3⟩ := wq_storeAt ty v vs hvc hi hk h1 hb hsz hcs
  refine ⟨w', ?_, e2, e3⟩
  unfold execOp
  simp only [ho, hp, hx, Sem.run_bind, e1, Result.andThen_ok, Sem.run_pure]
end
section
variable {P : Program} {oi : Oper} {a : Act} {w : World} {K : Act → World → Prop} {Q : Exit → Act → World → Prop} {ops : Array Oper}
end
theorem wq_blk {W W1 : World} {g k : Nat} {ob : Obj} (h : W.heap[k]? = some ob) (hg : W.grownBy W1 (some g)) (hne : k ≠ g) : W1.heap[k]? = some ob :=
 (hg.block k ((Array.getElem?_eq_some_iff.mp h).1) (fun e => hne (Option.some.inj e))).trans h
end Go.Proofs.Ytbhakljebcmocaa.PBoundKeeps
end
section
namespace Go.Proofs.Ytbhakljebcmocaa.PBoundKeeps
open Go.RowKit Go.Proofs.YtbhakljebcmocaaW.PrintWords Go.Proofs.YtbhakljebcmocaaW.PrintLast Go.Proofs.YtbhakljebcmocaaW.PrintMore
set_option linter.unusedVariables false
set_option linter.unusedSimpArgs false
def isAg (d : TypeDesc) : Bool := match d with | .struct _ | .array _ _ => true | _ => false
structure Tch (F : Nat → Prop) (w w' : World) : Prop where
 os : w'.os = w.os
 tape : w'.tape = w.tape
 output : w'.output = w.output
 size : w.heap.size ≤ w'.heap.size
 block : ∀ k, k < w.heap.size → ¬ F k → w'.heap[k]? = w.heap[k]?
theorem Tch.refl (F : Nat → Prop) (w : World) : Tch F w w := ⟨rfl, rfl, rfl, Nat.le_refl _, fun _ _ _ => rfl⟩
theorem Tch.trans {F : Nat → Prop} {a b c : World} (h : Tch F a b) (k : Tch F b c) : Tch F a c :=
 ⟨k.os.trans h.os, k.tape.trans h.tape, k.output.trans h.output, Nat.le_trans h.size k.size, fun j hj hs => (k.block j (Nat.lt_of_lt_of_le hj h.size) hs).trans (h.block j hj hs)⟩
theorem Tch.of_below {F : Nat → Prop} {a b : World} (h : Below a.heap.size a b) : Tch F a b := ⟨h.os, h.tape, h.output, h.size, fun j hj _ => h.block j hj⟩
theorem Tch.to_below {F : Nat → Prop} {a b : World} (h : Tch F a b) (hf : ∀ k, k < a.heap.size → ¬ F k) : Below a.heap.size a b := ⟨h.os, h.tape, h.output, h.size, fun j hj => h.block j hj (hf j hj)⟩
def NoF : Nat → Prop := fun _ => False
theorem Tch.below {a b : World} (h : Tch NoF a b) : Below a.heap.size a b := h.to_below (fun _ _ h => h)
structure PRep where
 At : World → Prop
 bl : Nat → Prop
 lt : ∀ w k, At w → bl k → k < w.heap.size
 keep : ∀ w w1, At w → w.heap.size ≤ w1.heap.size → (∀ k, bl k → k < w.heap.size → w1.heap[k]? = w.heap[k]?) → At w1
theorem PRep.below (r : PRep) {w w1 : World} (h : r.At w) (hb : Below w.heap.size w w1) : r.At w1 := r.keep w w1 h hb.size (fun k _ hk => hb.block k hk)
structure Fr where
 w : Nat → Prop
 g : Nat → Prop
inductive SV where
 | v (x : Value)
 | ad (i off : Nat)
 | sl (i n c : Nat)
structure SB where
 w : Bool
 t : TypeId
 cs : List SV
def SV.den (γ : Nat → Nat) : SV → Value
 | .v x => x
 | .ad i o => .pointer (some ⟨γ i, o, none⟩)
 | .sl i n c => .slice (some ⟨γ i, 0, none⟩) n c
def SV.ok (n : Nat) : SV → Prop
 | .v _ => True
 | .ad i _ => i < n
 | .sl i _ _ => i < n
theorem SV.ok_mono {n m : Nat} (h : n ≤ m) : ∀ {s : SV}, s.ok n → s.ok m
 | .v _, _ => trivial
 | .ad _ _, hs => Nat.lt_of_lt_of_le hs h
 | .sl _ _ _, hs => Nat.lt_of_lt_of_le hs h
def upd (γ : Nat → Nat) (n g : Nat) : Nat → Nat := fun i => if i = n then g else γ i
theorem upd_ne {γ : Nat → Nat} {n g i : Nat} (h : i < n) : upd γ n g i = γ i := by unfold upd; rw [if_neg (by omega)]
theorem upd_eq {γ : Nat → Nat} {n g : Nat} : upd γ n g n = g := by unfold upd; rw [if_pos rfl]
theorem den_upd {γ : Nat → Nat} {n g : Nat} : ∀ {s : SV}, s.ok n → s.den (upd γ n g) = s.den γ
 | .v _, _ => rfl
 | .ad i o, h => by show Value.pointer (some ⟨upd γ n g i, o, none⟩) = _; rw [upd_ne h]; rfl
 | .sl i m c, h => by show Value.slice (some ⟨upd γ n g i, 0, none⟩) m c = _; rw [upd_ne h]; rfl
theorem den_upds {γ : Nat → Nat} {n g : Nat} (l : List SV) (h : ∀ s ∈ l, s.ok n) : l.map (SV.den (upd γ n g)) = l.map (SV.den γ) :=
 List.map_congr_left fun s hs => den_upd (h s hs)
structure St where
 L : List (Option SB)
 T : List SV
def getB (L : List (Option SB)) (i : Nat) : Option SB := match L[i]? with
 | some b => b
 | none => none
theorem getB_lt {L : List (Option SB)} {i : Nat} {b : SB} (h : getB L i = some b) : i < L.length := by
 unfold getB at h
 split at h
 ·rename_i e; exact (List.getElem?_eq_some_iff.mp e).1
 ·cases h
theorem getB_set_self {L : List (Option SB)} {i : Nat} {x : Option SB} (h : i < L.length) : getB (L.set i x) i = x := by unfold getB; rw [List.getElem?_set_self h]
theorem getB_set_ne {L : List (Option SB)} {i j : Nat} {x : Option SB} (h : i ≠ j) : getB (L.set i x) j = getB L j := by unfold getB; rw [List.getElem?_set_ne h]
theorem getB_app {L : List (Option SB)} {x : Option SB} {i : Nat} (h : i < L.length) : getB (L ++ [x]) i = getB L i := by unfold getB; rw [List.getElem?_append_left h]
theorem getB_new {L : List (Option SB)} {x : Option SB} : getB (L ++ [x]) L.length = x := by unfold getB; rw [List.getElem?_append_right (Nat.le_refl _), Nat.sub_self]; rfl
def St.act (γ : Nat → Nat) (S : St) : Act := ⟨(S.T.map (SV.den γ)).toArray, []⟩
def putT (T : List SV) (d : Option Tmp) (s : SV) : List SV := match d with | some d => T.set d s | none => T
def St.put (S : St) (d : Option Tmp) (s : SV) : St := ⟨S.L, putT S.T d s⟩
def St.okT (S : St) : Prop := ∀ s ∈ S.T, s.ok S.L.length
structure Bq (W0 : World) (F : Fr) (γ : Nat → Nat) (L : List (Option SB)) (R : List PRep) (W : World) : Prop where
 hb : Tch F.w W0 W
 at_ : ∀ (i : Nat) (b : SB), getB L i = some b → W.heap[γ i]? = some (.cells (b.cs.map (SV.den γ)).toArray b.t (0, 0)) ∧ (b.w = true → W0.heap.size ≤ γ i ∨ F.w (γ i))
 nd : ∀ (i j : Nat) (a b : SB), i < j → getB L i = some a → getB L j = some b → (a.w || b.w) = true → γ i ≠ γ j
 ok : ∀ (i : Nat) (b : SB), getB L i = some b → ∀ s : SV, s ∈ b.cs → s.ok L.length
 rep : ∀ r, r ∈ R → r.At W
 sep : ∀ r, r ∈ R → ∀ (i : Nat) (b : SB), getB L i = some b → b.w = true → ¬ r.bl (γ i)
 fr : ∀ r, r ∈ R → ∀ k, r.bl k → W0.heap.size ≤ k ∨ F.g k
section
variable {W0 W W1 : World} {F : Fr} {γ : Nat → Nat} {L : List (Option SB)} {R : List PRep}
theorem Bq.below (h : Bq W0 F γ L R W) (hb : Below W.heap.size W W1) : Bq W0 F γ L R W1 :=
 ⟨h.hb.trans (.of_below hb), fun i b m => ⟨blk_below (h.at_ i b m).1 hb, (h.at_ i b m).2⟩, h.nd, h.ok, fun r m => r.below (h.rep r m) hb, h.sep, h.fr⟩
theorem Bq.drew (h : Bq W0 F γ L R W) : Bq W0 F γ L R W.drew := h.below (below_drew1 (Below.refl _ _))
theorem Bq.reps (h : Bq W0 F γ L R W) {R' : List PRep} (hr : ∀ r, r ∈ R' → r ∈ R ∨ (r.At W ∧ (∀ (i : Nat) (b : SB), getB L i = some b → b.w = true → ¬ r.bl (γ i)) ∧ ∀ k, r.bl k → W0.heap.size ≤ k ∨ F.g k)) : Bq W0 F γ L R' W :=
 ⟨h.hb, h.at_, h.nd, h.ok, fun r m => (hr r m).elim (h.rep r) (fun q => q.1), fun r m => (hr r m).elim (h.sep r) (fun q => q.2.1), fun r m => (hr r m).elim (h.fr r) (fun q => q.2.2)⟩
theorem Bq.drop (h : Bq W0 F γ L R W) (i : Nat) : Bq W0 F γ (L.set i none) R W := by
 have hg : ∀ (j : Nat) (b : SB), getB (L.set i none) j = some b → getB L j = some b := fun j b m => by
  by_cases q : i = j
  ·subst q
   rcases Nat.lt_or_ge i L.length with hi | hi
   ·rw [getB_set_self hi] at m; cases m
   ·rw [List.set_eq_of_length_le hi] at m; exact m
  ·rwa [getB_set_ne q] at m
 exact ⟨h.hb, fun j b m => h.at_ j b (hg j b m), fun a b x y hab m1 m2 hw => h.nd a b x y hab (hg _ _ m1) (hg _ _ m2) hw, fun j b m s hs => by rw [List.length_set]; exact h.ok j b (hg j b m) s hs, h.rep, fun r m j b mm hw => h.sep r m j b (hg j b mm) hw, h.fr⟩
theorem Bq.add (h : Bq W0 F γ L R W) {g t : Nat} {cs : List SV} (hok : ∀ s ∈ cs, s.ok L.length) (hblk : W.heap[g]? = some (.cells (cs.map (SV.den γ)).toArray t (0, 0))) (hown : W0.heap.size ≤ g ∨ F.w g)
    (hne : ∀ (i : Nat) (b : SB), getB L i = some b → γ i ≠ g) (hsep : ∀ r, r ∈ R → ¬ r.bl g) : Bq W0 F (upd γ L.length g) (L ++ [some ⟨true, t, cs⟩]) R W := by
  refine ⟨h.hb, fun i b m => ?_, fun i j a b hij mi mj hw => ?_, fun i b m s hs => ?_, h.rep, fun r m i b mi hw => ?_, h.fr⟩
  · rcases Nat.lt_or_ge i L.length with hi | hi
    · rw [getB_app hi] at m
      rw [upd_ne hi, den_upds _ (h.ok i b m)]
      exact h.at_ i b m
    · have hle := getB_lt m
      simp only [List.length_append, List.length_cons, List.length_nil] at hle
      have e : i = L.length := by omega
      subst e
      rw [getB_new] at m
      obtain rfl := Option.some.inj m
      rw [upd_eq, den_upds _ hok]
      exact ⟨hblk, fun _ => hown⟩
  · have hj := getB_lt mj
    simp only [List.length_append, List.length_cons, List.length_nil] at hj
    rcases Nat.lt_or_ge j L.length with q | q
    · rw [getB_app q] at mj
      rw [getB_app (by omega)] at mi
      rw [upd_ne q, upd_ne (by omega)]; exact h.nd i j a b hij mi mj hw
    · have e : j = L.length := by omega
      subst e
      rw [getB_app hij] at mi
      rw [upd_eq, upd_ne hij]
      exact hne i a mi
  · rw [List.length_append]
    rcases Nat.lt_or_ge i L.length with hi | hi
    · rw [getB_app hi] at m
      exact SV.ok_mono (by omega) (h.ok i b m s hs)
    · have hle := getB_lt m
      simp only [List.length_append, List.length_cons, List.length_nil] at hle
      have e : i = L.length := by omega
      subst e
      rw [getB_new] at m
      obtain rfl := Option.some.inj m
      exact SV.ok_mono (by omega) (hok s hs)
  · rcases Nat.lt_or_ge i L.length with q | q
    · rw [getB_app q] at mi
      rw [upd_ne q]; exact h.sep r m i b mi hw
    · have hle := getB_lt mi
      simp only [List.length_append, List.length_cons, List.length_nil] at hle
      have e : i = L.length := by omega
      subst e
      rw [upd_eq]
      exact hsep r m
theorem Bq.box (h : Bq W0 F γ L R W) {g t : Nat} {cs : List SV} (hok : ∀ s ∈ cs, s.ok L.length) (hg : g = W.heap.size) (hbox : W1.heap[g]? = some (.cells (cs.map (SV.den γ)).toArray t (0, 0))) (hb : Below W.heap.size W W1) :
    Bq W0 F (upd γ L.length g) (L ++ [some ⟨true, t, cs⟩]) R W1 :=
  (h.below hb).add hok hbox (Or.inl (by rw [hg]; exact h.hb.size)) (fun i b m => by have := blk_lt (h.at_ i b m).1; omega) (fun r m hk => by have := r.lt _ _ (h.rep r m) hk; omega)
theorem Bq.ne (h : Bq W0 F γ L R W) {i j : Nat} {a b : SB} (hi : getB L i = some a) (hj : getB L j = some b) (hw : b.w = true) (hne : i ≠ j) : γ i ≠ γ j := by
 rcases Nat.lt_or_gt_of_ne hne with q | q
 ·exact h.nd i j a b q hi hj (by rw [hw, Bool.or_true])
 ·exact Ne.symm (h.nd j i b a q hj hi (by rw [hw, Bool.true_or]))
theorem Bq.put (h : Bq W0 F γ L R W) {i t : Nat} {cs cs' : List SV} (hi : getB L i = some ⟨true, t, cs⟩) (hok : ∀ s ∈ cs', s.ok L.length) (hb : W1.heap[γ i]? = some (.cells (cs'.map (SV.den γ)).toArray t (0, 0))) (hgr : W.grownBy W1 (some (γ i))) :
    Bq W0 F γ (L.set i (some ⟨true, t, cs'⟩)) R W1 := by
  have h0 := h.at_ _ _ hi
  have hil := getB_lt hi
  refine ⟨⟨hgr.os.trans h.hb.os, hgr.tape.trans h.hb.tape, hgr.output.trans h.hb.output, Nat.le_trans h.hb.size hgr.size, fun k hk hF => (hgr.block k (Nat.lt_of_lt_of_le hk h.hb.size) (fun e => ?_)).trans (h.hb.block k hk hF)⟩, fun j b m => ?_, fun a b x y hab ma mb hw => ?_, fun j b m s hs => ?_, fun r m => r.keep _ _ (h.rep r m) hgr.size (fun k hk hlt => hgr.block k hlt (fun e => ?_)), fun r m j b mj hw => ?_, h.fr⟩
  · have e := Option.some.inj e
    subst e
    rcases h0.2 rfl with q | q
    · omega
    · exact hF q
  · by_cases q : i = j
    · subst q
      rw [getB_set_self hil] at m
      obtain rfl := Option.some.inj m
      exact ⟨hb, h0.2⟩
    · rw [getB_set_ne q] at m
      have hm := h.at_ j b m
      exact ⟨wq_blk hm.1 hgr (h.ne m hi rfl (fun e => q e.symm)), hm.2⟩
  · have key : ∀ (j : Nat) (b : SB), getB (L.set i (some ⟨true, t, cs'⟩)) j = some b → ∃ b', getB L j = some b' ∧ b'.w = b.w := fun j b m => by
      by_cases q : i = j
      · subst q
        rw [getB_set_self hil] at m
        obtain rfl := Option.some.inj m
        exact ⟨_, hi, rfl⟩
      · rw [getB_set_ne q] at m
        exact ⟨b, m, rfl⟩
    obtain ⟨x', e1, e2⟩ := key a x ma
    obtain ⟨y', e3, e4⟩ := key b y mb
    exact h.nd a b x' y' hab e1 e3 (by rw [e2, e4]; exact hw)
  · rw [List.length_set]
    by_cases q : i = j
    · subst q
      rw [getB_set_self hil] at m
      obtain rfl := Option.some.inj m
      exact hok s hs
    · rw [getB_set_ne q] at m
      exact h.ok j b m s hs
  · have e := Option.some.inj e
    subst e
    exact h.sep r m i _ hi rfl hk
  · by_cases q : i = j
    · subst q
      exact h.sep r m i _ hi rfl
    · rw [getB_set_ne q] at mj
      exact h.sep r m j b mj hw
end
def lput {α : Type} (cs : List α) (i : Nat) (vs : List α) : List α := cs.take i ++ (vs ++ cs.drop (i + vs.length))
theorem lput_map {α β : Type} (f : α → β) (cs : List α) (i : Nat) (vs : List α) : (lput cs i vs).map f = lput (cs.map f) i (vs.map f) := by
 simp [lput, List.map_take, List.map_drop]
theorem lput_mem {α : Type} {cs vs : List α} {i : Nat} {s : α} (h : s ∈ lput cs i vs) : s ∈ cs ∨ s ∈ vs := by
 unfold lput at h
 rcases List.mem_append.mp h with h | h
 ·exact .inl (List.mem_of_mem_take h)
 ·rcases List.mem_append.mp h with h | h
  ·exact .inr h
  ·exact .inl (List.mem_of_mem_drop h)
theorem lput_cons (cs : List Value) (i : Nat) (v : Value) (r : List Value) (h : i + (r.length + 1) ≤ cs.length) : lput cs i (v :: r) = lput (cs.set i v) (i + 1) r := by
 unfold lput
 have hl : i < cs.length := by omega
 rw [List.drop_set_of_lt (by omega : i < i + 1 + r.length), List.take_set]
 have e : List.take (i + 1) cs = cs.take i ++ [cs[i]] := by rw [List.take_succ_eq_append_getElem hl]
 rw [e, List.set_append_right _ _ (by simp; omega)]
 have l : (List.take i cs).length = i := by simp; omega
 rw [l, Nat.sub_self]
 simp [Nat.add_assoc, Nat.add_comm 1]
theorem wqPut_list (vs : List Value) : ∀ (cs : List Value) (i : Nat), i + vs.length ≤ cs.length → wqPut cs.toArray i vs = (lput cs i vs).toArray := by
 induction vs with
 | nil => intro cs i h; simp [wqPut, lput]
 | cons v r ih =>
  intro cs i h
  simp only [List.length_cons] at h
  show wqPut (cs.toArray.setIfInBounds i v) (i + 1) r = _
  rw [List.setIfInBounds_toArray, ih _ _ (by rw [List.length_set]; omega), lput_cons _ _ _ _ h]
structure TE where
 sz : List (Nat × Bool × Nat)
 fo : List (Nat × List (Nat × Nat))
 zc : List (Nat × List Value)
 ik : List (Nat × IntKind)
 el : List (Nat × Nat × Nat × Nat)
structure TE.ok (P : Program) (E : TE) : Prop where
 sz : ∀ t b k, E.sz.lookup t = some (b, k) → (∃ d, P.underlying t = some d ∧ isAg d = b) ∧ (P.info? t).map (·.size) = some k
 fo : ∀ t l, E.fo.lookup t = some l → ∃ fs, P.underlying t = some (.struct fs) ∧ fs.toList.map (fun f => (f.offset, (P.info? f.type).map (·.size))) = l.map (fun x => (x.1, some x.2)) ∧ ∀ x ∈ l, x.2 ≠ 0
 zc : ∀ t cs, E.zc.lookup t = some cs → ∃ v, (P.info? t).bind (·.zero) = some v ∧ v.cells.toList = cs
 ik : ∀ t k, E.ik.lookup t = some k → P.underlying t = some (.int k)
 el : ∀ t e s b, E.el.lookup t = some (e, s, b) → P.underlying t = some (.slice e) ∧ ∃ i z, P.info? e = some i ∧ i.zero = some z ∧ i.size = s ∧ i.bytes = b ∧ z.cells.size = s ∧ 0 < s ∧ s ≤ 100000
theorem lookup_mem {α : Type} (t : Nat) (x : α) : ∀ (l : List (Nat × α)), l.lookup t = some x → (t, x) ∈ l
 | [], h => by simp at h
 | (a, y) :: r, h => by
  rw [List.lookup_cons] at h
  split at h
  ·rename_i q
   have : t = a := by simpa using q
   subst this
   obtain rfl := Option.some.inj h
   exact List.mem_cons_self
  ·exact List.mem_cons_of_mem _ (lookup_mem t x r h)
def beqV : Value → Value → Bool
 | .bool a, .bool b => a == b
 | .int k a, .int k' b => decide (k = k') && decide (a = b)
 | .slice none 0 0, .slice none 0 0 => true
 | .pointer none, .pointer none => true
 | .map none, .map none => true
 | .nilFunc, .nilFunc => true
 | _, _ => false
theorem beqV_eq {a b : Value} (h : beqV a b = true) : a = b := by
 unfold beqV at h
 split at h <;> first | rfl | simp_all
def beqVs : List Value → List Value → Bool
 | [], [] => true
 | a :: r, b :: s => beqV a b && beqVs r s
 | _, _ => false
theorem beqVs_eq : ∀ {a b : List Value}, beqVs a b = true → a = b
 | [], [], _ => rfl
 | a :: r, b :: s, h => by
  unfold beqVs at h
  rw [Bool.and_eq_true] at h
  rw [beqV_eq h.1, beqVs_eq h.2]
 | [], _ :: _, h => by simp [beqVs] at h
 | _ :: _, [], h => by simp [beqVs] at h
def TE.check (P : Program) (E : TE) : Bool :=
 E.sz.all (fun x => (match P.underlying x.1 with | some d => isAg d == x.2.1 | none => false) && ((P.info? x.1).map (·.size) == some x.2.2)) &&
 (E.fo.all (fun x => match P.underlying x.1 with | some (.struct fs) => (fs.toList.map (fun f => (f.offset, (P.info? f.type).map (·.size))) == x.2.map (fun y => (y.1, some y.2))) && x.2.all (fun y => y.2 != 0) | _ => false) &&
 (E.zc.all (fun x => match (P.info? x.1).bind (·.zero) with | some v => beqVs v.cells.toList x.2 | none => false) &&
 (E.ik.all (fun x => match P.underlying x.1 with | some (.int k) => decide (k = x.2) | _ => false) &&
 E.el.all (fun x => match P.underlying x.1 with | some (.slice e) => (e == x.2.1) && (match P.info? e with | some i => (match i.zero with | some z => (i.size == x.2.2.1) && (i.bytes == x.2.2.2) && (z.cells.size == x.2.2.1) && (0 : Nat).blt x.2.2.1 && x.2.2.1.ble 100000 | none => false) | none => false) | _ => false))))
theorem TE.ok_of {P : Program} {E : TE} (h : E.check P = true) : E.ok P := by
 unfold TE.check at h
 simp only [Bool.and_eq_true, List.all_eq_true] at h
 obtain ⟨h1, h2, h3, h4, h5⟩ := h
 refine ⟨fun t b k hl => ?_, fun t l hl => ?_, fun t cs hl => ?_, fun t k hl => ?_, fun t e s b hl => ?_⟩
 ·obtain ⟨q1, q2⟩ := h1 _ (lookup_mem _ _ _ hl)
  refine ⟨?_, by simpa using q2⟩
  cases hu : P.underlying t with
  | none => rw [hu] at q1; cases q1
  | some d => rw [hu] at q1; exact ⟨d, rfl, by simpa using q1⟩
 ·have q := h2 _ (lookup_mem _ _ _ hl)
  cases hu : P.underlying t with
  | none => simp [hu] at q
  | some d =>
   cases d <;> simp [hu] at q
   case struct fs => exact ⟨fs, rfl, by simpa using q.1, fun x hx => q.2 x.1 x.2 hx⟩
 ·have q := h3 _ (lookup_mem _ _ _ hl)
  cases hu : (P.info? t).bind (·.zero) with
  | none => simp [hu] at q
  | some v => simp only [hu] at q; exact ⟨v, rfl, beqVs_eq q⟩
 ·have q := h4 _ (lookup_mem _ _ _ hl)
  cases hu : P.underlying t with
  | none => simp [hu] at q
  | some d =>
   cases d <;> simp [hu] at q
   case int k' => rw [q]
 ·have q := h5 _ (lookup_mem _ _ _ hl)
  cases hu : P.underlying t with
  | none => simp [hu] at q
  | some d =>
   cases d <;> simp [hu] at q
   case slice e' =>
    obtain ⟨q1, q2⟩ := q
    subst q1
    refine ⟨rfl, ?_⟩
    cases hi : P.info? e' with
    | none => simp [hi] at q2
    | some i =>
     cases hz : i.zero with
     | none => simp [hi, hz] at q2
     | some z =>
      simp only [hi, hz, Bool.and_eq_true, beq_iff_eq] at q2
      exact ⟨i, z, rfl, hz, q2.1.1.1.1, q2.1.1.1.2, q2.1.1.2, Nat.le_of_ble_eq_true q2.1.2, Nat.le_of_ble_eq_true q2.2⟩
end Go.Proofs.Ytbhakljebcmocaa.PBoundKeeps
end
section
namespace Go.Proofs.Ytbhakljebcmocaa.PBoundKeeps
open Go.RowKit Go.Proofs.YtbhakljebcmocaaW.PrintWords Go.Proofs.YtbhakljebcmocaaW.PrintLast Go.Proofs.YtbhakljebcmocaaW.PrintMore
set_option linter.unusedVariables false
set_option linter.unusedSimpArgs false
def opv (T : List SV) : Operand → Option SV
 | .tmp t => T[t]?
 | .const x => some (.v x)
 | .func f => some (.v (.func (.func f) #[] #[]))
 | .global _ => none
theorem opv_eval {γ : Nat → Nat} {S : St} {x : Operand} {s : SV} (h : opv S.T x = some s) : (S.act γ).eval x = s.den γ := by
 cases x with
 | tmp t =>
  have h' : S.T[t]? = some s := h
  show (S.act γ).tmps.getD t undef = _
  simp [St.act, h']
 | const x => obtain rfl := Option.some.inj h; rfl
 | func f => obtain rfl := Option.some.inj h; rfl
 | global g => cases h
theorem opv_ok {S : St} {x : Operand} {s : SV} (hT : S.okT) (h : opv S.T x = some s) : s.ok S.L.length := by
 cases x with
 | tmp t => exact hT s (List.mem_of_getElem? h)
 | const x => obtain rfl := Option.some.inj h; trivial
 | func f => obtain rfl := Option.some.inj h; trivial
 | global g => cases h
def pbin (op : BinOp) : Value → Value → Option Value
 | .int k a, .int k' b => match op with
  | .shl => if b < 0 then none else some (.int k (k.wrap (a * 2 ^ (min b.toNat k.bits))))
  | .shr => if b < 0 then none else some (.int k (a.fdiv (2 ^ (min b.toNat k.bits))))
  | .add => if k = k' then some (.int k (k.wrap (a + b))) else none
  | .sub => if k = k' then some (.int k (k.wrap (a - b))) else none
  | .mul => if k = k' then some (.int k (k.wrap (a * b))) else none
  | .quo => if k = k' then if b = 0 then none else some (.int k (k.wrap (a.tdiv b))) else none
  | .rem => if k = k' then if b = 0 then none else some (.int k (a.tmod b)) else none
  | .and => if k = k' then some (.int k (k.wrap ((BitVec.ofInt k.bits a &&& BitVec.ofInt k.bits b).toNat))) else none
  | .or => if k = k' then some (.int k (k.wrap ((BitVec.ofInt k.bits a ||| BitVec.ofInt k.bits b).toNat))) else none
  | .eql => if k = k' then some (.bool (a == b)) else none
  | .neq => if k = k' then some (.bool (a != b)) else none
  | .lss => if k = k' then some (.bool (a < b)) else none
  | .leq => if k = k' then some (.bool (a ≤ b)) else none
  | .gtr => if k = k' then some (.bool (a > b)) else none
  | .geq => if k = k' then some (.bool (a ≥ b)) else none
  | _ => none
 | _, _ => none
theorem pbin_ok {P : Program} {op : BinOp} {t : TypeId} {x y v : Value} (h : pbin op x y = some v) (w : World) : (binOp op t x y).run P w = .ok v w := by
 unfold pbin at h
 split at h
 ·rename_i k a k' b
  cases op <;> simp only at h <;> (try contradiction)
  all_goals (split at h <;> (try contradiction))
  all_goals (try subst_vars)
  all_goals (try (split at h <;> (try contradiction)))
  all_goals (first | (obtain rfl := Option.some.inj h) | skip)
  all_goals (try simp_all [binOp, Op.intArith, Op.intCmp, Op.intBits, Op.intDiv, Op.shift])
  all_goals (intro hlt; omega)
 ·cases h
theorem pbin_guard {P : Program} {op : BinOp} {t : TypeId} {ox oy : Operand} {x y v : Value} (h : pbin op x y = some v) (w : World) : (eqGuard op t ox oy x y).run P w = .ok () w := by
 unfold pbin at h
 split at h
 ·unfold eqGuard
  cases op <;> simp
 ·cases h
def pun (op : UnOp) : Value → Option Value
 | .bool b => match op with | .not => some (.bool (!b)) | _ => none
 | .int k n => match op with | .neg => some (.int k (k.wrap (0 - n))) | _ => none
 | _ => none
theorem pun_ok {P : Program} {op : UnOp} {x v : Value} (h : pun op x = some v) (w : World) : (Op.unary op x).run P w = .ok v w := by
 unfold pun at h
 split at h
 ·cases op <;> simp only at h <;> (try contradiction)
  obtain rfl := Option.some.inj h
  simp [Op.unary]
 ·cases op <;> simp only at h <;> (try contradiction)
  obtain rfl := Option.some.inj h
  simp [Op.unary, Op.intArith]
 ·cases h
def ppick : SV → SV → SV → Option SV
 | .v (.bool t), .v (.bool x), .v (.bool y) => some (.v (.bool (bif t then x else y)))
 | .v (.bool t), x, y => match t with | true => some x | false => some y
 | _, _, _ => none
theorem ppick_ok {γ : Nat → Nat} {n : Nat} {c x y s : SV} (h : ppick c x y = some s) (hx : x.ok n) (hy : y.ok n) : s.ok n ∧ ∃ t, c.den γ = .bool t ∧ s.den γ = if t then x.den γ else y.den γ := by
 unfold ppick at h
 split at h
 ·rename_i t a b
  obtain rfl := Option.some.inj h
  exact ⟨trivial, t, rfl, by cases t <;> rfl⟩
 ·rename_i t x y _
  split at h
  ·obtain rfl := Option.some.inj h; exact ⟨hx, true, rfl, rfl⟩
  ·obtain rfl := Option.some.inj h; exact ⟨hy, false, rfl, rfl⟩
 ·cases h
def pnil : SV → Option SV
 | .ad i o => some (.ad i o)
 | .v (.pointer (some a)) => some (.v (.pointer (some a)))
 | _ => none
def pconv (E : TE) (s d : TypeId) : SV → Option SV
 | .v (.int _ n) => match E.ik.lookup s, E.ik.lookup d with
  | some _, some k => some (.v (.int k (k.wrap n)))
  | _, _ => none
 | _ => none
def pext (i : Nat) : SV → Option SV
 | .v (.tuple vs) => (vs.toList[i]?).map .v
 | _ => none
def pfa (E : TE) (t f : Nat) : SV → Option SV
 | .ad i o => match E.fo.lookup t with
  | some l => (l[f]?).map (fun x => .ad i (o + x.1))
  | none => none
 | .v (.pointer (some a)) => match E.fo.lookup t with
  | some l => (l[f]?).map (fun x => .v (.pointer (some (a.add x.1))))
  | none => none
 | _ => none
def plen : SV → Option SV
 | .v (.slice _ n _) => some (.v (.int .i64 n))
 | .sl _ n _ => some (.v (.int .i64 n))
 | _ => none
def vOf : SV → Option Value
 | .v x => some x
 | _ => none
def vsOf (T : List SV) : List (Nat × Operand) → Option (List (Nat × Value))
 | [] => some []
 | (i, x) :: r => match (opv T x).bind vOf, vsOf T r with
  | some v, some l => some ((i, v) :: l)
  | _, _ => none
def pv (P : Program) (E : TE) (T : List SV) : Op → Option SV
 | .move x => opv T x
 | .assign x => opv T x
 | .pick c a b => match opv T c, opv T a, opv T b with
  | some c, some a, some b => ppick c a b
  | _, _, _ => none
 | .nilCheck x => (opv T x).bind pnil
 | .fieldAddr t x f => (opv T x).bind (pfa E t f)
 | .binOp op _ x y _ => match (opv T x).bind vOf, (opv T y).bind vOf with
  | some a, some b => (pbin op a b).map .v
  | _, _ => none
 | .unOp op _ x => ((opv T x).bind vOf).bind (fun a => (pun op a).map .v)
 | .convert s d x => (opv T x).bind (pconv E s d)
 | .extract x i => (opv T x).bind (pext i)
 | .build t parts => (vsOf T parts.toList).bind (fun l => (P.built t l).map (fun c => .v (.agg c)))
 | .call c => match c.callee with
  | .builtin b => match b with
   | .len => match c.args.toList, c.argTypes.toList with
    | [x], [t] => match E.el.lookup t with
     | some _ => (opv T x).bind plen
     | none => none
    | _, _ => none
   | _ => none
  | _ => none
 | _ => none
theorem bind_some {α β : Type} {x : Option α} {f : α → Option β} {b : β} (h : x.bind f = some b) : ∃ a, x = some a ∧ f a = some b := by
 cases x with
 | none => cases h
 | some a => exact ⟨a, rfl, h⟩
theorem map_some' {α β : Type} {x : Option α} {f : α → β} {b : β} (h : x.map f = some b) : ∃ a, x = some a ∧ f a = b := by
 cases x with
 | none => cases h
 | some a => exact ⟨a, rfl, Option.some.inj h⟩
theorem vOf_some {s : SV} {x : Value} (h : vOf s = some x) : s = .v x := by
 cases s with
 | v y => obtain rfl := Option.some.inj h; rfl
 | ad i o => cases h
 | sl i n c => cases h
theorem opvv {γ : Nat → Nat} {S : St} {x : Operand} {v : Value} (h : (opv S.T x).bind vOf = some v) : (S.act γ).eval x = v := by
 obtain ⟨s, h1, h2⟩ := bind_some h
 obtain rfl := vOf_some h2
 exact opv_eval h1
theorem vsOf_ok {γ : Nat → Nat} {S : St} : ∀ {ps : List (Nat × Operand)} {l : List (Nat × Value)}, vsOf S.T ps = some l → ps.map (fun x => (x.1, (S.act γ).eval x.2)) = l
 | [], l, h => by obtain rfl := Option.some.inj h; rfl
 | (i, x) :: r, l, h => by
  unfold vsOf at h
  split at h
  ·rename_i v l' h1 h2
   obtain rfl := Option.some.inj h
   rw [List.map_cons, vsOf_ok h2, opvv h1]
  ·cases h
theorem run_fieldAt' {P : Program} {E : TE} (hE : E.ok P) {t f : Nat} {l : List (Nat × Nat)} {x : Nat × Nat} (hl : E.fo.lookup t = some l) (hx : l[f]? = some x) (ad : Addr) (w : World) :
    (Instr.fieldAt t (.pointer (some ad)) f).run P w = .ok (.pointer (some (ad.add x.1))) w := by
  obtain ⟨fs, h1, h2, h3⟩ := hE.fo t l hl
  have h4 : (fs.toList.map (fun f => (f.offset, (P.info? f.type).map (·.size))))[f]? = some (x.1, some x.2) := by rw [h2, List.getElem?_map, hx]; rfl
  rw [List.getElem?_map] at h4
  obtain ⟨fd, h5, h6⟩ := map_some' h4
  have h7 : fs[f]? = some fd := by simpa using h5
  have h8 : fd.offset = x.1 := congrArg Prod.fst h6
  have h9 : (P.info? fd.type).map (·.size) = some x.2 := congrArg Prod.snd h6
  obtain ⟨ti, h10, h11⟩ := map_some' h9
  have h12 := h3 x (List.mem_of_getElem? hx)
  have hs : (sizeOf fd.type).run P w = .ok x.2 w := by simp [sizeOf, typeInfo, h10, h11]
  simp [Instr.fieldAt, Sem.run_bind, run_underlying h1, h7, Instr.sureAddr, fieldPlace, hs, h12, h8]
theorem run_fieldAt {P : Program} {E : TE} (hE : E.ok P) {t f : Nat} {l : List (Nat × Nat)} {x : Nat × Nat} (hl : E.fo.lookup t = some l) (hx : l[f]? = some x) (g o : Nat) (w : World) :
    (Instr.fieldAt t (.pointer (some ⟨g, o, none⟩)) f).run P w = .ok (.pointer (some ⟨g, o + x.1, none⟩)) w := by
  rw [run_fieldAt' hE hl hx, wq_add]
theorem pv_ok {P : Program} {E : TE} (hE : E.ok P) {γ : Nat → Nat} {S : St} (hT : S.okT) {o : Oper} {s : SV} (h : pv P E S.T o.op = some s) :
    (∀ w, (execOp (S.act γ).eval o).run P w = .ok (.value (s.den γ)) w) ∧ s.ok S.L.length := by
  unfold pv at h
  split at h
  · rename_i x ho
    exact ⟨fun w => by unfold execOp; simp [ho, opv_eval h], opv_ok hT h⟩
  · rename_i x ho
    exact ⟨fun w => by unfold execOp; simp [ho, opv_eval h], opv_ok hT h⟩
  · rename_i c a b ho
    split at h
    · rename_i c' a' b' e1 e2 e3
      obtain ⟨q1, t, q2, q3⟩ := ppick_ok (γ := γ) h (opv_ok hT e2) (opv_ok hT e3)
      refine ⟨fun w => ?_, q1⟩
      unfold execOp
      rw [q3]
      cases t <;> simp [ho, opv_eval e1, opv_eval e2, opv_eval e3, q2, asBool, Sem.run_bind]
    · cases h
  · rename_i x ho
    obtain ⟨a, e1, e2⟩ := bind_some h
    unfold pnil at e2
    split at e2
    · obtain rfl := Option.some.inj e2
      exact ⟨fun w => by unfold execOp; simp [ho, opv_eval e1, SV.den], opv_ok hT e1⟩
    · obtain rfl := Option.some.inj e2
      exact ⟨fun w => by unfold execOp; simp [ho, opv_eval e1, SV.den], trivial⟩
    · cases e2
  · rename_i t x f ho
    obtain ⟨a, e1, e2⟩ := bind_some h
    unfold pfa at e2
    split at e2
    · split at e2
      · rename_i i of l hl
        obtain ⟨y, e3, e4⟩ := map_some' e2
        subst e4
        have hk := opv_ok hT e1
        refine ⟨fun w => ?_, hk⟩
        unfold execOp
        simp only [ho, opv_eval e1, SV.den, Sem.run_bind, run_fieldAt hE hl e3, Result.andThen_ok, Sem.run_pure]
      · cases e2
    · split at e2
      · rename_i ad l hl
        obtain ⟨y, e3, e4⟩ := map_some' e2
        subst e4
        refine ⟨fun w => ?_, trivial⟩
        unfold execOp
        simp only [ho, opv_eval e1, SV.den, Sem.run_bind, run_fieldAt' hE hl e3, Result.andThen_ok, Sem.run_pure]
      · cases e2
    · cases e2
  · rename_i op t x y t' ho
    split at h
    · rename_i a b e1 e2
      obtain ⟨v, e3, e4⟩ := map_some' h
      subst e4
      refine ⟨fun w => ?_, trivial⟩
      unfold execOp
      simp [ho, opvv e1, opvv e2, Sem.run_bind, pbin_guard e3, pbin_ok e3, SV.den]
    · cases h
  · rename_i op t x ho
    obtain ⟨a, e1, e2⟩ := bind_some h
    obtain ⟨v, e3, e4⟩ := map_some' e2
    subst e4
    exact ⟨fun w => by unfold execOp; simp [ho, opvv e1, Sem.run_bind, pun_ok e3, SV.den], trivial⟩
  · rename_i t d x ho
    obtain ⟨a, e1, e2⟩ := bind_some h
    unfold pconv at e2
    split at e2
    · split at e2
      · rename_i k0 k e0 e3
        obtain rfl := Option.some.inj e2
        refine ⟨fun w => ?_, trivial⟩
        unfold execOp
        simp [ho, opv_eval e1, SV.den, convert, run_underlying (hE.ik _ _ e0), run_underlying (hE.ik _ _ e3), Conv.intToInt]
      · cases e2
    · cases e2
  · rename_i x i ho
    obtain ⟨a, e1, e2⟩ := bind_some h
    unfold pext at e2
    split at e2
    · obtain ⟨v, e3, e4⟩ := map_some' e2
      subst e4
      rename_i vs
      have e5 : vs[i]? = some v := by simpa using e3
      exact ⟨fun w => by unfold execOp; simp [ho, opv_eval e1, Sem.run_bind, Instr.extract, e5, SV.den], trivial⟩
    · cases e2
  · rename_i t parts ho
    obtain ⟨l, e1, e2⟩ := bind_some h
    obtain ⟨c, e3, e4⟩ := map_some' e2
    subst e4
    refine ⟨fun w => ?_, trivial⟩
    have e5 : (parts.map (fun x => (x.1, (S.act γ).eval x.2))).toList = l := by rw [Array.toList_map]; exact vsOf_ok e1
    have e6 := run_build (P := P) w t (parts.map (fun x => (x.1, (S.act γ).eval x.2))) c (by rw [e5]; exact e3)
    unfold execOp
    simp [ho, Sem.run_bind, e6, SV.den]
  · rename_i c ho
    obtain ⟨callee, cargs, tys⟩ := c
    simp only at h
    split at h
    · split at h
      · split at h
        · rename_i x tt hx htt
          split at h
          · rename_i q hel
            obtain ⟨a, e1, e2⟩ := bind_some h
            have hargs : cargs = #[x] := Array.ext' hx
            have htys : tys = #[tt] := Array.ext' htt
            subst hargs htys
            obtain ⟨e, sz, by_⟩ := q
            have hu := (hE.el _ _ _ _ hel).1
            unfold plen at e2
            split at e2
            · obtain rfl := Option.some.inj e2
              refine ⟨fun w => ?_, trivial⟩
              unfold execOp
              simp [ho, resolve, invoke, builtin, opv_eval e1, SV.den, Builtin.len_, run_underlying hu, goInt]
            · obtain rfl := Option.some.inj e2
              refine ⟨fun w => ?_, trivial⟩
              unfold execOp
              simp [ho, resolve, invoke, builtin, opv_eval e1, SV.den, Builtin.len_, run_underlying hu, goInt]
            · cases e2
          · cases h
        · cases h
      · cases h
    · cases h
  · cases h
end Go.Proofs.Ytbhakljebcmocaa.PBoundKeeps
end
section
namespace Go.Proofs.Ytbhakljebcmocaa.PBoundKeeps
open Go.RowKit Go.Proofs.YtbhakljebcmocaaW.PrintWords Go.Proofs.YtbhakljebcmocaaW.PrintLast Go.Proofs.YtbhakljebcmocaaW.PrintMore
set_option linter.unusedVariables false
set_option linter.unusedSimpArgs false
def avs : List SV → Option (List Value)
 | [] => some []
 | .v x :: r => match avs r with | some l => some (x :: l) | none => none
 | .ad _ _ :: _ => none
 | .sl _ _ _ :: _ => none
theorem avs_ok {γ : Nat → Nat} : ∀ {l : List SV} {vs : List Value}, avs l = some vs → l.map (SV.den γ) = vs
 | [], vs, h => by obtain rfl := Option.some.inj h; rfl
 | .v x :: r, vs, h => by
  unfold avs at h
  split at h
  ·rename_i l e
   obtain rfl := Option.some.inj h
   rw [List.map_cons, avs_ok e]
   rfl
  ·cases h
 | .ad _ _ :: _, _, h => by cases h
 | .sl _ _ _ :: _, _, h => by cases h
def ldv (E : TE) (L : List (Option SB)) (t : TypeId) : SV → Option SV
 | .ad i o => match getB L i with
  | some b => match E.sz.lookup t with
   | some (true, k) => match avs ((b.cs.drop o).take k) with
    | some vs => if vs.length = k then some (.v (.agg vs.toArray)) else none
    | none => none
   | some (false, _) => b.cs[o]?
   | none => none
  | none => none
 | _ => none
theorem ldv_ok {P : Program} {E : TE} (hE : E.ok P) {γ : Nat → Nat} {S : St} (hok : ∀ (i : Nat) (b : SB), getB S.L i = some b → ∀ s : SV, s ∈ b.cs → s.ok S.L.length) {o : Oper} {t : TypeId} {x : Operand} {i of : Nat} {s : SV} (ho : o.op = .load t x) (hx : opv S.T x = some (.ad i of)) (h : ldv E S.L t (.ad i of) = some s) :
    s.ok S.L.length ∧ i < S.L.length ∧ ∀ W : World, (∀ b, getB S.L i = some b → W.heap[γ i]? = some (.cells (b.cs.map (SV.den γ)).toArray b.t (0, 0))) → (execOp (S.act γ).eval o).run P W = .ok (.value (s.den γ)) W := by
  unfold ldv at h
  split at h
  · rename_i i' o' e
    injection e with e1 e2
    subst e1 e2
    split at h
    · rename_i b hb
      have hi := getB_lt hb
      split at h
      · rename_i k hk
        split at h
        · rename_i vs hv
          split at h
          · rename_i hl
            obtain rfl := Option.some.inj h
            refine ⟨trivial, hi, fun W hW => ?_⟩
            obtain ⟨⟨d, q1, q2⟩, q3⟩ := hE.sz _ _ _ hk
            have e3 : (((b.cs.map (SV.den γ)).toArray).toList.drop of).take k = vs := by rw [← avs_ok (γ := γ) hv]; simp [List.map_take, List.map_drop]
            exact wq_run_loadA ho (opv_eval hx) q1 (by cases d <;> first | rfl | (simp [isAg] at q2)) q3 (hW b hb) e3 hl
          · cases h
        · cases h
      · rename_i k hk
        refine ⟨hok i b hb s (List.mem_of_getElem? h), hi, fun W hW => ?_⟩
        obtain ⟨⟨d, q1, q2⟩, q3⟩ := hE.sz _ _ _ hk
        exact wq_run_load1 ho (opv_eval hx) q1 (by cases d <;> first | rfl | (simp [isAg] at q2)) (hW b hb) (by simp [h])
      · cases h
    · cases h
  · rename_i hne
    exact absurd rfl (hne i of)
def cellsOf : SV → List SV
 | .v x => x.cells.toList.map .v
 | .ad i o => [.ad i o]
 | .sl i n c => [.sl i n c]
theorem cellsOf_den {γ : Nat → Nat} : ∀ {s : SV}, (cellsOf s).map (SV.den γ) = (s.den γ).cells.toList
 | .v x => by simp only [cellsOf, List.map_map]; exact (List.map_congr_left (fun a _ => rfl)).trans (List.map_id _)
 | .ad i o => rfl
 | .sl i n c => rfl
theorem cellsOf_ok {n : Nat} {s c : SV} (h : s.ok n) (hc : c ∈ cellsOf s) : c.ok n := by
 cases s with
 | v x =>
  obtain ⟨y, _, rfl⟩ := List.mem_map.mp hc
  trivial
 | ad i o =>
  obtain rfl := List.mem_singleton.mp hc
  exact h
 | sl i n k =>
  obtain rfl := List.mem_singleton.mp hc
  exact h
def one1 : SV → Bool
 | .v x => x.oneCell'
 | .ad _ _ => true
 | .sl _ _ _ => true
theorem one1_den {γ : Nat → Nat} : ∀ {s : SV}, one1 s = true → (s.den γ).oneCell' = true
 | .v _, h => h
 | .ad _ _, _ => rfl
 | .sl _ _ _, _ => rfl
def stv (E : TE) (S : St) (t : TypeId) : SV → SV → Option St
 | .ad i o, x => match getB S.L i, E.sz.lookup t with
  | some b, some (_, k) => if ((cellsOf x).length == k && (o + k).ble b.cs.length && (cellsOf x).all one1 && b.w) = true then some ⟨S.L.set i (some ⟨true, b.t, lput b.cs o (cellsOf x)⟩), S.T⟩ else none
  | _, _ => none
 | _, _ => none
def addB (S : St) (d : Option Tmp) (t : TypeId) (cs : List SV) (s : SV) : St := ⟨S.L ++ [some ⟨true, t, cs⟩], putT S.T d s⟩
def bsl (T : List SV) (size len : Nat) : List (Nat × Operand) → Option (List SV)
 | [] => if len = 0 then some [] else none
 | [(0, x)] => match opv T x with
  | some s => if len = 1 ∧ (cellsOf s).length = size then some (cellsOf s) else none
  | none => none
 | _ => none
def exec (P : Program) (E : TE) (S : St) (o : Oper) : Option St :=
 match o.op with
 | .load t x => ((opv S.T x).bind (ldv E S.L t)).map (S.put o.dst)
 | .store t p x => match o.dst, opv S.T p, opv S.T x with
  | none, some a, some b => stv E S t a b
  | _, _, _ => none
 | .box t x => (opv S.T x).map (fun s => addB S o.dst t (cellsOf s) (.ad S.L.length 0))
 | .alloc t => (E.zc.lookup t).map (fun cs => addB S o.dst t (cs.map .v) (.ad S.L.length 0))
 | .buildSlice t len parts => match E.el.lookup t with
  | some (e, size, _) => (bsl S.T size len parts.toList).map (fun cs => addB S o.dst e cs (.sl S.L.length len len))
  | none => none
 | op => (pv P E S.T op).map (S.put o.dst)
theorem okT_put {S : St} (hT : S.okT) {d : Option Tmp} {s : SV} (hs : s.ok S.L.length) : (S.put d s).okT := by
 cases d with
 | none => exact hT
 | some d =>
  intro u hu
  rcases List.mem_or_eq_of_mem_set hu with hu | rfl
  ·exact hT u hu
  ·exact hs
theorem act_put (γ : Nat → Nat) (S : St) (d : Option Tmp) (s : SV) : (S.put d s).act γ = (S.act γ).put d (s.den γ) := by
 cases d with
 | none => rfl
 | some d => simp [St.act, St.put, putT, Act.put, List.map_set]
theorem act_upd (γ : Nat → Nat) (S : St) (g : Nat) (hT : S.okT) : S.act (upd γ S.L.length g) = S.act γ := by
 unfold St.act
 rw [den_upds S.T hT]
theorem lput_all {α : Type} {cs vs : List α} (h : vs.length = cs.length) : lput cs 0 vs = vs := by
 unfold lput
 rw [List.take_zero, List.nil_append, Nat.zero_add, h, List.drop_length, List.append_nil]
theorem foldl_fill : ∀ (l : List Value) (k : Nat) (acc : Array Value), (l.zipIdx k).foldl (fun cs (x : Value × Nat) => cs.setIfInBounds x.2 x.1) acc = wqPut acc k l
 | [], k, acc => rfl
 | v :: r, k, acc => by
  rw [List.zipIdx_cons, List.foldl_cons]
  exact foldl_fill r (k + 1) _
theorem fill_one (cells : Array Value) (v : Value) (size : Nat) (h1 : v.cells.size = size) (h2 : cells.size = size) : Instr.fill (fun i => some (i * size, size)) cells [(0, v)] = some v.cells := by
 simp only [Instr.fill, Nat.zero_mul, Nat.zero_add, h1, h2, ne_eq, not_true_eq_false, gt_iff_lt, Nat.lt_irrefl, decide_false, Bool.or_self, if_false, Bool.false_eq_true]
 rw [← Array.foldl_toList, Array.toList_zipIdx]
 have e : (v.cells.toList.zipIdx 0).foldl (fun cs (x : Value × Nat) => cs.setIfInBounds x.2 x.1) cells = v.cells := by
  rw [foldl_fill]
  have e2 := wqPut_list v.cells.toList cells.toList 0 (by simp [h1, h2])
  rw [Array.toArray_toList] at e2
  rw [e2, lput_all (by simp [h1, h2]), Array.toArray_toList]
 exact congrArg some e
section
variable {P : Program} {E : TE} {W0 W : World} {F : Fr} {γ : Nat → Nat} {R : List PRep}
def NextK (K : Act → World → Prop) (d : Option Tmp) (a : Act) (W1 : World) : Next → Prop
 | .value v => K (a.put d v) W1
 | _ => K (a.put d undef) W1
def Agr (n : Nat) (γ γ' : Nat → Nat) : Prop := ∀ i, i < n → γ' i = γ i
theorem Agr.refl {n : Nat} (γ : Nat → Nat) : Agr n γ γ := fun _ _ => rfl
theorem exec_ok (hE : E.ok P) {S S' : St} (hT : S.okT) {o : Oper} (h : exec P E S o = some S') (hB : Bq W0 F γ S.L R W) :
    ∃ γ' W1 n, (execOp (S.act γ).eval o).run P W = .ok n W1 ∧ (n = .skip ∨ ∃ v, n = .value v) ∧ Agr S.L.length γ γ' ∧ S.L.length ≤ S'.L.length ∧ S'.okT ∧ Bq W0 F γ' S'.L R W1 ∧ (∀ K : Act → World → Prop, K (S'.act γ') W1 → NextK K o.dst (S.act γ) W1 n) := by
  have hbox : ∀ (t : TypeId) (cs : List SV) (s : SV) (v : Value) (hcs : ∀ s ∈ cs, s.ok S.L.length) (hs : s.ok (S.L.length + 1)) (hsv : s.den (upd γ S.L.length W.heap.size) = v) (d : Option Tmp), (execOp (S.act γ).eval o).run P W = .ok (.value v) (W.alloc (.cells (cs.map (SV.den γ)).toArray t (0, 0))) → o.dst = d → S' = addB S d t cs s →
      ∃ γ' W1 n, (execOp (S.act γ).eval o).run P W = .ok n W1 ∧ (n = .skip ∨ ∃ v, n = .value v) ∧ Agr S.L.length γ γ' ∧ S.L.length ≤ S'.L.length ∧ S'.okT ∧ Bq W0 F γ' S'.L R W1 ∧ (∀ K : Act → World → Prop, K (S'.act γ') W1 → NextK K o.dst (S.act γ) W1 n) := by
    intro t cs s v hcs hs hsv d hrun hd hS'
    subst hS'
    have hok2 : (addB S d t cs s).okT := by
      have h1 : (⟨S.L ++ [some ⟨true, t, cs⟩], S.T⟩ : St).okT := fun s hs => SV.ok_mono (by simp) (hT s hs)
      exact okT_put h1 (s := s) (by simpa using hs)
    refine ⟨upd γ S.L.length W.heap.size, _, _, hrun, Or.inr ⟨_, rfl⟩, fun i hi => upd_ne hi, by simp [addB], hok2, hB.box hcs rfl (blk_new W _) (below_alloc (Below.refl _ _) _), fun K hK => ?_⟩
    show K ((S.act γ).put o.dst _) _
    have e : (addB S d t cs s).act (upd γ S.L.length W.heap.size) = (S.act γ).put d v := by
      have e1 := act_put (upd γ S.L.length W.heap.size) ⟨S.L ++ [some ⟨true, t, cs⟩], S.T⟩ d s
      have e2 : (⟨S.L ++ [some ⟨true, t, cs⟩], S.T⟩ : St).act (upd γ S.L.length W.heap.size) = S.act γ := act_upd γ S W.heap.size hT
      rw [e2, hsv] at e1
      exact e1
    rw [hd, ← e]
    exact hK
  have hpure : ∀ s : SV, S' = S.put o.dst s → s.ok S.L.length → (execOp (S.act γ).eval o).run P W = .ok (.value (s.den γ)) W →
      ∃ γ' W1 n, (execOp (S.act γ).eval o).run P W = .ok n W1 ∧ (n = .skip ∨ ∃ v, n = .value v) ∧ Agr S.L.length γ γ' ∧ S.L.length ≤ S'.L.length ∧ S'.okT ∧ Bq W0 F γ' S'.L R W1 ∧ (∀ K : Act → World → Prop, K (S'.act γ') W1 → NextK K o.dst (S.act γ) W1 n) := by
    intro s hS' hs hrun
    subst hS'
    exact ⟨γ, W, _, hrun, Or.inr ⟨_, rfl⟩, Agr.refl γ, Nat.le_refl _, okT_put hT hs, hB, fun K hK => by show K ((S.act γ).put o.dst _) _; rw [← act_put]; exact hK⟩
  unfold exec at h
  split at h
  · rename_i t x ho
    obtain ⟨s, h1, h2⟩ := map_some' h
    obtain ⟨a, h3, h4⟩ := bind_some h1
    cases a with
    | v y => cases h4
    | sl i n c => cases h4
    | ad i of =>
      obtain ⟨q1, q2, q3⟩ := ldv_ok hE (γ := γ) hB.ok ho h3 h4
      exact hpure s h2.symm q1 (q3 W (fun b hb => (hB.at_ i b hb).1))
  · rename_i t p x ho
    split at h
    · rename_i a b hd hp hx
      unfold stv at h
      split at h
      · rename_i i of
        split at h
        · rename_i bb ag k hb hk
          split at h
          · rename_i hc
            obtain rfl := Option.some.inj h
            simp only [Bool.and_eq_true, beq_iff_eq, List.all_eq_true] at hc
            obtain ⟨⟨⟨c1, c2⟩, c3⟩, c4⟩ := hc
            have c2' : of + k ≤ bb.cs.length := Nat.le_of_ble_eq_true c2
            have hb' : getB S.L i = some ⟨true, bb.t, bb.cs⟩ := by rw [hb, ← c4]
            obtain ⟨_, q3⟩ := hE.sz _ _ _ hk
            have hat := (hB.at_ i bb hb).1
            have e1 : (b.den γ).cells.toList = (cellsOf b).map (SV.den γ) := cellsOf_den.symm
            obtain ⟨w', r1, r2, r3⟩ := wq_run_store (P := P) (a := S.act γ) (vs := (cellsOf b).map (SV.den γ)) (cs' := ((lput bb.cs of (cellsOf b)).map (SV.den γ)).toArray) ho (opv_eval hp) (opv_eval hx) e1 q3 (by rw [List.length_map]; exact c1)
              (by rw [List.all_map, List.all_eq_true]; exact fun s hs => one1_den (c3 s hs)) hat (by simp; omega) (by rw [wqPut_list _ _ _ (by simp; omega), lput_map])
            refine ⟨γ, w', _, r1, Or.inl rfl, Agr.refl γ, by simp, fun s hs => by rw [List.length_set]; exact hT s hs, ?_, fun K hK => by rw [hd]; exact hK⟩
            refine hB.put hb' (fun s hs => ?_) r2 r3
            rcases lput_mem hs with hs | hs
            · exact hB.ok i bb hb s hs
            · exact cellsOf_ok (opv_ok hT hx) hs
          · cases h
        · cases h
      · cases h
    · cases h
  · rename_i t x ho
    obtain ⟨s, h1, h2⟩ := map_some' h
    refine hbox t (cellsOf s) (.ad S.L.length 0) (.pointer (some ⟨W.heap.size, 0, none⟩)) (fun c hc => cellsOf_ok (opv_ok hT h1) hc) (Nat.lt_succ_self _) (by show Value.pointer (some ⟨upd γ S.L.length W.heap.size S.L.length, 0, none⟩) = _; rw [upd_eq]) o.dst ?_ rfl h2.symm
    unfold execOp
    rw [cellsOf_den]
    simp [ho, opv_eval h1, Instr.box, newVar, newRow]
  · rename_i t ho
    obtain ⟨cs, h1, h2⟩ := map_some' h
    obtain ⟨v, q1, q2⟩ := hE.zc _ _ h1
    refine hbox t (cs.map .v) (.ad S.L.length 0) (.pointer (some ⟨W.heap.size, 0, none⟩)) (fun c hc => by obtain ⟨y, _, rfl⟩ := List.mem_map.mp hc; trivial) (Nat.lt_succ_self _) (by show Value.pointer (some ⟨upd γ S.L.length W.heap.size S.L.length, 0, none⟩) = _; rw [upd_eq]) o.dst ?_ rfl h2.symm
    have e : (cs.map SV.v).map (SV.den γ) = cs := by rw [List.map_map]; exact (List.map_congr_left (fun a _ => rfl)).trans (List.map_id _)
    rw [e]
    have q3 : (zeroValue t).run P W = .ok v W := by
      cases hq : P.info? t with
      | none => simp [hq] at q1
      | some ti =>
        have q4 : ti.zero = some v := by simpa [hq] using q1
        simp [zeroValue, typeInfo, hq, q4]
    unfold execOp
    rw [← q2]
    simp [ho, Instr.alloc, q3, newVar, newRow]
  · rename_i t len parts ho
    split at h
    · rename_i e size by_ hel
      obtain ⟨cs, h1, h2⟩ := map_some' h
      obtain ⟨hu, ti, z, hi, hz, hs1, _, hs2, hs3, hs4⟩ := hE.el _ _ _ _ hel
      have key : (∀ s ∈ cs, s.ok S.L.length) ∧ (execOp (S.act γ).eval o).run P W = .ok (.value (.slice (some ⟨W.heap.size, 0, none⟩) len len)) (W.alloc (.cells (cs.map (SV.den γ)).toArray e (0, 0))) := by
        unfold bsl at h1
        split at h1
        · rename_i hp
          split at h1
          · rename_i hl
            obtain rfl := Option.some.inj h1
            subst hl
            have hp' : parts = #[] := Array.ext' hp
            subst hp'
            refine ⟨by simp, ?_⟩
            unfold execOp
            simp [ho, Instr.buildSlice, run_underlying hu, sizeOf, typeInfo, hi, hs1, newRow, Instr.fill]
            rw [show Array.range 0 = #[] from by simp, Array.map_empty]
          · cases h1
        · rename_i x hp
          split at h1
          · rename_i s hx
            split at h1
            · rename_i hl
              obtain rfl := Option.some.inj h1
              obtain ⟨hl1, hl2⟩ := hl
              subst hl1
              have hp' : parts = #[(0, x)] := Array.ext' hp
              subst hp'
              refine ⟨fun c hc => cellsOf_ok (opv_ok hT hx) hc, ?_⟩
              have hsz : (s.den γ).cells.size = size := by rw [← Array.length_toList, ← cellsOf_den, List.length_map]; exact hl2
              have hbig : ¬ 1 * size > 2 ^ 24 := by omega
              have hz0 : ¬ 1 * size = 0 := by omega
              have hzv : (zeroValue e).run P W = .ok z W := by simp [zeroValue, typeInfo, hi, hz]
              have hf := fill_one ((Array.range (1 * size)).map (z.cells[· % z.cells.size]!)) (s.den γ) size hsz (by simp)
              unfold execOp
              rw [cellsOf_den]
              simp [ho, Instr.buildSlice, run_underlying hu, sizeOf, typeInfo, hi, hs1, newRow]
              rw [if_neg (by omega), if_neg (by omega), hzv, Result.andThen_ok, opv_eval hx]
              rw [Nat.one_mul] at hf
              rw [hf]
              simp
            · cases h1
          · cases h1
        · cases h1
      exact hbox e cs (.sl S.L.length len len) _ key.1 (Nat.lt_succ_self _) (by show Value.slice (some ⟨upd γ S.L.length W.heap.size S.L.length, 0, none⟩) len len = _; rw [upd_eq]) o.dst key.2 rfl h2.symm
    · cases h
  · obtain ⟨s, h1, h2⟩ := map_some' h
    obtain ⟨q1, q2⟩ := pv_ok hE (γ := γ) hT h1
    exact hpure s h2.symm q2 (q1 W)
end
end Go.Proofs.Ytbhakljebcmocaa.PBoundKeeps
end
section
namespace Go.Proofs.Ytbhakljebcmocaa.PBoundKeeps
open Go.RowKit Go.Proofs.YtbhakljebcmocaaW.PrintWords Go.Proofs.YtbhakljebcmocaaW.PrintLast Go.Proofs.YtbhakljebcmocaaW.PrintMore
set_option linter.unusedVariables false
set_option linter.unusedSimpArgs false
inductive Kt where
 | c (x : Code)
 | b (id : Nat)
 | l (J : Act → World → Prop)
def wpK (P : Program) (Q : Exit → Act → World → Prop) : List Kt → Exit → Act → World → Prop
 | [] => Q
 | .c x :: k => Exit.then (x.wp P (wpK P Q k)) (wpK P Q k)
 | .b id :: k => Exit.inBlock id (wpK P Q k)
 | .l J :: k => Exit.then J (wpK P Q k)
def kexit (id : Nat) : List Kt → Option (List Kt)
 | [] => none
 | .c _ :: k => kexit id k
 | .b j :: k => match id == j with | true => some k | false => kexit id k
 | .l _ :: k => kexit id k
theorem kexit_ok {P : Program} {Q : Exit → Act → World → Prop} {id : Nat} {a : Act} {w : World} : ∀ {k k' : List Kt}, kexit id k = some k' → wpK P Q k' .normal a w → wpK P Q k (.exit id) a w
 | [], _, h, _ => by cases h
 | .c _ :: k, k', h, hw => (kexit_ok (k := k) h hw : wpK P Q k (.exit id) a w)
 | .l _ :: k, k', h, hw => (kexit_ok (k := k) h hw : wpK P Q k (.exit id) a w)
 | .b j :: k, k', h, hw => by
  show (if id = j then wpK P Q k .normal a w else wpK P Q k (.exit id) a w)
  unfold kexit at h
  split at h
  ·rename_i e
   obtain rfl := Option.some.inj h
   rw [if_pos (by simpa using e)]
   exact hw
  ·rename_i e
   rw [if_neg (by simpa using e)]
   exact kexit_ok h hw
theorem wpK_ret {P : Program} {Q : Exit → Act → World → Prop} {a : Act} {w : World} : ∀ {k : List Kt}, Q .ret a w → wpK P Q k .ret a w
 | [], h => h
 | .c _ :: k, h => (wpK_ret (k := k) h : wpK P Q k .ret a w)
 | .b _ :: k, h => (wpK_ret (k := k) h : wpK P Q k .ret a w)
 | .l _ :: k, h => (wpK_ret (k := k) h : wpK P Q k .ret a w)
theorem wpK_panic {P : Program} {Q : Exit → Act → World → Prop} {a : Act} {w : World} {ch : List PanicEntry} : ∀ {k : List Kt}, wpK P Q k (.panic ch) a w ↔ Q (.panic ch) a w
 | [] => Iff.rfl
 | .c _ :: k => (wpK_panic (k := k) : wpK P Q k (.panic ch) a w ↔ _)
 | .b _ :: k => (wpK_panic (k := k) : wpK P Q k (.panic ch) a w ↔ _)
 | .l _ :: k => (wpK_panic (k := k) : wpK P Q k (.panic ch) a w ↔ _)
def lbn (n m : Nat) : Array Bool := ((List.range n).map (fun i => m.testBit i)).toArray
structure DrI where
 ops : Array Oper
 T : Bool × List (List Nat × List Nat)
 B : List Nat
 ds : List Nat
 ld : List Nat
 n : Nat
 L0 : List (Option SB)
 R0 : List PRep
inductive Md where
 | ks (k : List Kt)
 | pl (ops : Array Oper) (rest : List Oper) (k : List Kt)
 | dr (D : DrI) (m fuel : Nat) (cl : Bool) (ord : List Nat) (k : List Kt)
 | sel (D : DrI) (m fuel : Nat) (cl : Bool) (i : Nat) (ord : List Nat) (k : List Kt)
def SPd (γ : Nat → Nat) (D : DrI) (W : World) : Prop := (∀ j, j ∈ D.ld → ∀ b, getB D.L0 j = some b → W.heap[γ j]? = some (.cells (b.cs.map (SV.den γ)).toArray b.t (0, 0))) ∧ ∀ r, r ∈ D.R0 → r.At W
def DrI.good (D : DrI) (cl : Bool) (L : List (Option SB)) (R : List PRep) : Prop :=
 rtab .any D.ops = D.T ∧ waitsOk D.T.2 D.B = true ∧ (∀ j, j ∈ D.ld → j < L.length ∧ ∀ b, getB D.L0 j = some b → ∀ s : SV, s ∈ b.cs → s.ok L.length) ∧ (cl = true → ∀ j, j ∈ D.ld → getB L j = getB D.L0 j) ∧ ∀ r, r ∈ D.R0 → r ∈ R
def Md.good : Md → List (Option SB) → List PRep → Prop
 | .ks _, _, _ => True
 | .pl _ _ _, _, _ => True
 | .dr D _ _ cl _ _, L, R => D.good cl L R
 | .sel D _ _ cl _ _ _, L, R => D.good cl L R
def Holds (P : Program) (Q : Exit → Act → World → Prop) (γ : Nat → Nat) : Md → Act → World → Prop
 | .ks k => wpK P Q k .normal
 | .pl ops rest k => wpList P ops (wpK P Q k) rest
 | .dr D m fuel _ _ k => wpAnyLast P .any D.ops (wpK P Q k) (SPd γ D) D.ds fuel (lbn D.n m)
 | .sel D m fuel _ i _ k => fun a w => wpOp P D.ops (wpK P Q k) i (fun a' w' => (i ∉ D.ds → SPd γ D w → SPd γ D w') ∧ wpAnyLast P .any D.ops (wpK P Q k) (SPd γ D) D.ds fuel ((lbn D.n m).setIfInBounds i true) a' w') a w
def Known (kn : List Nat) (γ : Nat → Nat) : Prop := ∀ i g, kn[i]? = some g → γ i = g
def Go (P : Program) (Q : Exit → Act → World → Prop) (W0 : World) (F : Fr) (kn : List Nat) (R : List PRep) (S : St) (m : Md) : Prop :=
 ∀ γ W, Known kn γ → kn.length ≤ S.L.length → Bq W0 F γ S.L R W → S.okT → m.good S.L R → Holds P Q γ m (S.act γ) W
def yieldS (ops : Array Oper) (T : List SV) (j : Nat) : Option Bool := match (ops[j]?).bind (·.dst) with
 | some d => match T[d]? with
  | some (.v (.bool b)) => some b
  | _ => none
 | none => none
theorem yieldS_ok {ops : Array Oper} {S : St} {j : Nat} {b : Bool} (γ : Nat → Nat) (h : yieldS ops S.T j = some b) : yielded ops (S.act γ).tmps j = some b := by
 unfold yieldS at h
 unfold yielded
 split at h
 ·rename_i d e
  split at h
  ·rename_i x e1
   obtain rfl := Option.some.inj h
   rw [e]
   simp [St.act, e1, SV.den]
  ·cases h
 ·cases h
def passed (ops : Array Oper) (T : List SV) (j : Nat) : Bool := match (ops[j]?).bind (·.dst) with
 | some d => match T[d]? with
  | some (.v (.tuple _)) => true
  | _ => false
 | none => false
theorem passed_ok {ops : Array Oper} {S : St} {j : Nat} (γ : Nat → Nat) (h : passed ops S.T j = true) : yielded ops (S.act γ).tmps j = none := by
 unfold passed at h
 unfold yielded
 split at h
 ·rename_i d e
  split at h
  ·rename_i x e1
   rw [e]
   simp [St.act, e1, SV.den]
  ·cases h
 ·cases h
def wantS (ops : Array Oper) (T : List SV) (o : Oper) : Option Bool := match o.guard with
 | none => some true
 | some (j, b) => match yieldS ops T j with
  | some t => some (t == b)
  | none => match passed ops T j with
   | true => some false
   | false => none
theorem wantS_ok {ops : Array Oper} {S : St} {o : Oper} {b : Bool} (γ : Nat → Nat) (h : wantS ops S.T o = some b) : Region.wanted o (yielded ops (S.act γ).tmps) = b := by
 unfold wantS at h
 unfold Region.wanted
 split at h
 ·rename_i e
  rw [e]
  exact Option.some.inj h
 ·rename_i j t e
  split at h
  ·rename_i u e1
   rw [e]
   show (yielded ops (S.act γ).tmps j == some t) = b
   rw [yieldS_ok γ e1]
   exact Option.some.inj h
  ·split at h
   ·rename_i e2
    rw [e]
    show (yielded ops (S.act γ).tmps j == some t) = b
    rw [passed_ok γ e2]
    exact Option.some.inj h
   ·cases h
def stepK (S : St) : List Kt → Option (Md × St)
 | .b _ :: k => some (.ks k, S)
 | .c x :: k => match x with
  | .skip => some (.ks k, S)
  | .label _ => some (.ks k, S)
  | .seq x y => some (.ks (.c x :: .c y :: k), S)
  | .block id x => some (.ks (.c x :: .b id :: k), S)
  | .exit id => (kexit id k).map (fun k' => (.ks k', S))
  | .cond c x y => match opv S.T c with
   | some (.v (.bool t)) => match t with
    | true => some (.ks (.c x :: k), S)
    | false => some (.ks (.c y :: k), S)
   | _ => none
  | .region _ ops draw => match draw with
   | false => some (.pl ops ops.toList k, S)
   | true => none
  | _ => none
 | _ => none
def isLen (c : Call) : Bool := match c.callee with
 | .builtin b => match b with
  | .len => true
  | _ => false
 | _ => false
def stepD (P : Program) (E : TE) (S : St) (D : DrI) (m fuel : Nat) (cl : Bool) (ord : List Nat) (k : List Kt) : Option (Md × St) :=
 match ord with
 | [] => match readyT D.T.2 (lbn D.n m).toList with
  | [] => some (.ks k, S)
  | _ :: _ => none
 | i :: ord => match fuel with
  | 0 => none
  | fuel + 1 => match D.ops[i]? with
   | none => none
   | some o => match wantS D.ops S.T o with
    | none => none
    | some false => match anyT D.T (lbn D.n m).toList (lbn D.n (m ||| 2 ^ i)).toList i with
     | true => some (.dr D (m ||| 2 ^ i) fuel cl ord k, S.put o.dst (.v undef))
     | false => none
    | some true => match o.op with
     | .load t p => match opv S.T p with
      | some (.ad j of) => match (cl && D.ld.elem j && takeW D.T D.B D.ds (lbn D.n m).toList (lbn D.n (m ||| 2 ^ i)).toList i) with
       | true => (ldv E S.L t (.ad j of)).map (fun s => (.dr D (m ||| 2 ^ i) fuel cl ord k, S.put o.dst s))
       | false => none
      | _ => none
     | .store _ _ _ => match (readyT D.T.2 (lbn D.n m).toList == [i]) with
      | true => some (.sel D m fuel cl i ord k, S)
      | false => none
     | .box _ _ => match (readyT D.T.2 (lbn D.n m).toList == [i]) with
      | true => some (.sel D m fuel cl i ord k, S)
      | false => none
     | .alloc _ => match (readyT D.T.2 (lbn D.n m).toList == [i]) with
      | true => some (.sel D m fuel cl i ord k, S)
      | false => none
     | .buildSlice _ _ _ => match (readyT D.T.2 (lbn D.n m).toList == [i]) with
      | true => some (.sel D m fuel cl i ord k, S)
      | false => none
     | .makeSlice _ _ _ => match (readyT D.T.2 (lbn D.n m).toList == [i]) with
      | true => some (.sel D m fuel cl i ord k, S)
      | false => none
     | .call c => match isLen c with
      | true => match anyT D.T (lbn D.n m).toList (lbn D.n (m ||| 2 ^ i)).toList i with
       | true => (pv P E S.T (.call c)).map (fun s => (.dr D (m ||| 2 ^ i) fuel cl ord k, S.put o.dst s))
       | false => none
      | false => match (readyT D.T.2 (lbn D.n m).toList == [i]) with
       | true => some (.sel D m fuel cl i ord k, S)
       | false => none
     | op => match anyT D.T (lbn D.n m).toList (lbn D.n (m ||| 2 ^ i)).toList i with
      | true => (pv P E S.T op).map (fun s => (.dr D (m ||| 2 ^ i) fuel cl ord k, S.put o.dst s))
      | false => none
def selCl (S : St) (D : DrI) (cl : Bool) (i : Nat) (o : Oper) : Option Bool := match o.op with
 | .store _ p _ => match opv S.T p with
  | some (.ad j _) => match (cl && !(D.ld.elem j)) with
   | true => some true
   | false => match D.ds.elem i with
    | true => some false
    | false => none
  | _ => none
 | _ => match cl with
  | true => some true
  | false => match D.ds.elem i with
   | true => some false
   | false => none
def stepS (P : Program) (E : TE) (S : St) (D : DrI) (m fuel : Nat) (cl : Bool) (i : Nat) (ord : List Nat) (k : List Kt) : Option (Md × St) :=
 match (lbn D.n m).toList.set i true == (lbn D.n (m ||| 2 ^ i)).toList with
 | false => none
 | true => match D.ops[i]? with
  | none => none
  | some o => match wantS D.ops S.T o with
   | none => none
   | some false => match cl with
    | true => some (.dr D (m ||| 2 ^ i) fuel cl ord k, S.put o.dst (.v undef))
    | false => none
   | some true => match selCl S D cl i o with
    | none => none
    | some cl' => (exec P E S o).map (fun S' => (.dr D (m ||| 2 ^ i) fuel cl' ord k, S'))
def step1 (P : Program) (E : TE) (S : St) : Md → Option (Md × St)
 | .ks k => stepK S k
 | .pl ops rest k => match rest with
  | [] => some (.ks k, S)
  | o :: r => match wantS ops S.T o with
   | none => none
   | some false => some (.pl ops r k, S.put o.dst (.v undef))
   | some true => (exec P E S o).map (fun S' => (.pl ops r k, S'))
 | .dr D m fuel cl ord k => stepD P E S D m fuel cl ord k
 | .sel D m fuel cl i ord k => stepS P E S D m fuel cl i ord k
def runN (P : Program) (E : TE) : Nat → Md × St → Md × St
 | 0, x => x
 | n + 1, x => match step1 P E x.2 x.1 with
  | some y => runN P E n y
  | none => x
section
variable {P : Program} {E : TE} {Q : Exit → Act → World → Prop} {W0 : World} {F : Fr} {kn : List Nat} {R : List PRep}
theorem known_agr {n : Nat} {γ γ' : Nat → Nat} (h : Known kn γ) (hn : kn.length ≤ n) (ha : Agr n γ γ') : Known kn γ' :=
 fun i g hi => (ha i (Nat.lt_of_lt_of_le (List.getElem?_eq_some_iff.mp hi).1 hn)).trans (h i g hi)
theorem oper_wp_of_exec {o : Oper} {a : Act} {W W1 : World} {n : Next} {K : Act → World → Prop} {Q' : Exit → Act → World → Prop} (hrun : (execOp a.eval o).run P W = .ok n W1) (hn : n = .skip ∨ ∃ v, n = .value v)
    (hK : NextK K o.dst a W1 n) : o.wp P a W K Q' := by
  unfold Oper.wp
  rw [hrun]
  rcases hn with rfl | ⟨v, rfl⟩
  · exact hK
  · exact hK
theorem stepK_ok {S S' : St} {k : List Kt} {m' : Md} (h : stepK S k = some (m', S')) (hg : Go P Q W0 F kn R S' m') : Go P Q W0 F kn R S (.ks k) := by
 intro γ W hk hl hB hT hgd
 unfold stepK at h
 split at h
 ·obtain ⟨rfl, rfl⟩ := Prod.mk.inj (Option.some.inj h)
  rename_i id k
  exact (hg γ W hk hl hB hT trivial : wpK P Q k .normal _ _)
 ·rename_i x k
  show x.wp P (wpK P Q k) _ _
  split at h
  ·obtain ⟨rfl, rfl⟩ := Prod.mk.inj (Option.some.inj h); exact wp_skip (hg γ W hk hl hB hT trivial)
  ·obtain ⟨rfl, rfl⟩ := Prod.mk.inj (Option.some.inj h); exact wp_label (hg γ W hk hl hB hT trivial)
  ·obtain ⟨rfl, rfl⟩ := Prod.mk.inj (Option.some.inj h); exact wp_seq (hg γ W hk hl hB hT trivial)
  ·obtain ⟨rfl, rfl⟩ := Prod.mk.inj (Option.some.inj h); exact wp_block (hg γ W hk hl hB hT trivial)
  ·obtain ⟨k', h1, h2⟩ := map_some' h
   obtain ⟨rfl, rfl⟩ := Prod.mk.inj h2
   exact wp_exit (kexit_ok h1 (hg γ W hk hl hB hT trivial))
  ·rename_i c x y
   split at h
   ·rename_i t e
    have e1 : (S.act γ).eval c = .bool t := opv_eval e
    split at h
    ·obtain ⟨rfl, rfl⟩ := Prod.mk.inj (Option.some.inj h); exact wp_cond_true e1 (hg γ W hk hl hB hT trivial)
    ·obtain ⟨rfl, rfl⟩ := Prod.mk.inj (Option.some.inj h); exact wp_cond_false e1 (hg γ W hk hl hB hT trivial)
   ·cases h
  ·split at h
   ·obtain ⟨rfl, rfl⟩ := Prod.mk.inj (Option.some.inj h); exact wp_region_list (hg γ W hk hl hB hT trivial)
   ·cases h
  ·cases h
 ·cases h
theorem stepP_ok (hE : E.ok P) {S S' : St} {ops : Array Oper} {rest : List Oper} {k : List Kt} {m' : Md} (h : step1 P E S (.pl ops rest k) = some (m', S')) (hg : Go P Q W0 F kn R S' m') : Go P Q W0 F kn R S (.pl ops rest k) := by
 intro γ W hk hl hB hT hgd
 unfold step1 at h
 simp only at h
 split at h
 ·obtain ⟨rfl, rfl⟩ := Prod.mk.inj (Option.some.inj h); exact (hg γ W hk hl hB hT trivial : wpK P Q k .normal _ _)
 ·rename_i o r
  show wpList P ops (wpK P Q k) (o :: r) _ _
  unfold wpList
  split at h
  ·cases h
  ·rename_i e
   obtain ⟨rfl, rfl⟩ := Prod.mk.inj (Option.some.inj h)
   rw [wantS_ok γ e]
   simp only [Bool.false_eq_true, if_false]
   have := hg γ W hk hl hB (okT_put hT trivial) trivial
   rw [act_put] at this
   exact this
  ·rename_i e
   obtain ⟨S1, h1, h2⟩ := map_some' h
   obtain ⟨rfl, rfl⟩ := Prod.mk.inj h2
   rw [wantS_ok γ e]
   simp only [if_true]
   obtain ⟨γ', W1, n, q1, q2, q3, q4, q5, q6, q7⟩ := exec_ok hE hT h1 hB
   exact Or.inl (oper_wp_of_exec q1 q2 (q7 _ (hg γ' W1 (known_agr hk hl q3) (Nat.le_trans hl q4) q6 q5 trivial)))
end
end Go.Proofs.Ytbhakljebcmocaa.PBoundKeeps
end
section
namespace Go.Proofs.Ytbhakljebcmocaa.PBoundKeeps
open Go.RowKit Go.Proofs.YtbhakljebcmocaaW.PrintWords Go.Proofs.YtbhakljebcmocaaW.PrintLast Go.Proofs.YtbhakljebcmocaaW.PrintMore
set_option linter.unusedVariables false
set_option linter.unusedSimpArgs false
section
variable {P : Program} {E : TE} {Q : Exit → Act → World → Prop} {W0 : World} {F : Fr} {kn : List Nat} {R : List PRep}
def PQ (Q : Exit → Act → World → Prop) : Prop := ∀ c a d v w, Q (.panic c) (Act.put a d v) w → Q (.panic c) a w
theorem SPd_agr {D : DrI} {cl : Bool} {L : List (Option SB)} (hg : D.good cl L R) {γ γ' : Nat → Nat} (ha : Agr L.length γ γ') : SPd γ' D = SPd γ D := by
 funext W
 unfold SPd
 have key : ∀ j, j ∈ D.ld → ∀ b, getB D.L0 j = some b → γ' j = γ j ∧ b.cs.map (SV.den γ') = b.cs.map (SV.den γ) := fun j hj b hb => by
  obtain ⟨h1, h2⟩ := hg.2.2.1 j hj
  refine ⟨ha j h1, List.map_congr_left fun s hs => ?_⟩
  have h3 := h2 b hb s hs
  cases s with
  | v x => rfl
  | ad i o => show Value.pointer (some ⟨γ' i, o, none⟩) = _; rw [ha i h3]; rfl
  | sl i n c => show Value.slice (some ⟨γ' i, 0, none⟩) n c = _; rw [ha i h3]; rfl
 refine propext ⟨fun h => ⟨fun j hj b hb => ?_, h.2⟩, fun h => ⟨fun j hj b hb => ?_, h.2⟩⟩
 ·have q := h.1 j hj b hb
  rw [(key j hj b hb).1, (key j hj b hb).2] at q
  exact q
 ·have q := h.1 j hj b hb
  rw [(key j hj b hb).1, (key j hj b hb).2]
  exact q
theorem SPd_of {D : DrI} {L : List (Option SB)} (hg : D.good true L R) {γ : Nat → Nat} {W : World} (hB : Bq W0 F γ L R W) : SPd γ D W := ⟨fun j hj b hb => by
 have h1 := hg.2.2.2.1 rfl j hj
 exact (hB.at_ j b (h1.trans hb)).1, fun r hr => hB.rep r (hg.2.2.2.2 r hr)⟩
theorem good_put {R' : List PRep} {D : DrI} {cl : Bool} {L L' : List (Option SB)} (hg : D.good cl L R) (hl : L.length ≤ L'.length) (cl' : Bool) (hc : cl' = true → cl = true ∧ ∀ j, j ∈ D.ld → getB L' j = getB L j) (hR : ∀ r, r ∈ R → r ∈ R') : D.good cl' L' R' :=
 ⟨hg.1, hg.2.1, fun j hj => ⟨Nat.lt_of_lt_of_le (hg.2.2.1 j hj).1 hl, fun b hb s hs => SV.ok_mono hl ((hg.2.2.1 j hj).2 b hb s hs)⟩, fun h j hj => by
  obtain ⟨h1, h2⟩ := hc h
  rw [h2 j hj]
  exact hg.2.2.2.1 h1 j hj, fun r hr => hR r (hg.2.2.2.2 r hr)⟩
theorem sel_step {D : DrI} {m fuel : Nat} {cl : Bool} {i : Nat} {ord : List Nat} {k : List Kt} {S : St} {o : Oper} (hr : (readyT D.T.2 (lbn D.n m).toList == [i]) = true) (hg : Go P Q W0 F kn R S (.sel D m fuel cl i ord k)) : Go P Q W0 F kn R S (.dr D m (fuel + 1) cl ord k) := by
 intro γ W hk hl hB hT hgd
 have h1 := hg γ W hk hl hB hT hgd
 have h2 : Region.ready .any D.ops (lbn D.n m) = [i] := by
  have := hgd.1
  rw [ready_eq, this]
  simpa using hr
 exact wpAnyLast_all h2 (by simp) (fun j hj => by obtain rfl := List.mem_singleton.mp hj; exact h1)
theorem stepD_ok (hPQ : PQ Q) (hE : E.ok P) {S S' : St} {D : DrI} {m fuel : Nat} {cl : Bool} {ord : List Nat} {k : List Kt} {m' : Md} (h : stepD P E S D m fuel cl ord k = some (m', S')) (hg : Go P Q W0 F kn R S' m') : Go P Q W0 F kn R S (.dr D m fuel cl ord k) := by
 have hQ : ∀ (d : Option Tmp) (v : Value) (c : List PanicEntry) (a : Act) (w : World), wpK P Q k (.panic c) (a.put d v) w → wpK P Q k (.panic c) a w := fun d v c a w q => wpK_panic.mpr (hPQ c a d v w (wpK_panic.mp q))
 unfold stepD at h
 split at h
 ·split at h
  ·rename_i hr
   obtain ⟨rfl, rfl⟩ := Prod.mk.inj (Option.some.inj h)
   intro γ W hk hl hB hT hgd
   exact done_ (done_of hgd.1 (by rw [hr]; rfl)) (hg γ W hk hl hB hT trivial)
  ·cases h
 ·rename_i i ord
  split at h
  ·cases h
  ·rename_i fuel
   split at h
   ·cases h
   ·rename_i o ho
    split at h
    ·cases h
    ·rename_i hw
     split at h
     ·rename_i hc
      obtain ⟨rfl, rfl⟩ := Prod.mk.inj (Option.some.inj h)
      intro γ W hk hl hB hT hgd
      exact pure_ (lbn D.n (m ||| 2 ^ i)) ho rfl (any_of hgd.1 hc) (hQ _ _) (Or.inr ⟨wantS_ok γ hw, rfl⟩) (act_put γ S o.dst (.v undef)).symm (hg γ W hk hl hB (okT_put hT trivial) hgd)
     ·cases h
    ·rename_i hw
     split at h
     ·rename_i t p hop
      split at h
      ·rename_i j of hp
       split at h
       ·rename_i hc
        simp only [Bool.and_eq_true] at hc
        obtain ⟨⟨c1, c2⟩, c3⟩ := hc
        obtain ⟨s, h1, h2⟩ := map_some' h
        obtain ⟨rfl, rfl⟩ := Prod.mk.inj h2
        intro γ W hk hl hB hT hgd
        obtain ⟨q1, q2, q3⟩ := ldv_ok hE (γ := γ) hB.ok hop hp h1
        have hgd' : D.good cl S.L R := hgd
        rw [c1] at hgd'
        have hj : j ∈ D.ld := List.elem_iff.mp c2
        refine take_ (lbn D.n (m ||| 2 ^ i)) ho rfl (take_ofW hgd.1 hgd.2.1 c3) (hQ _ _) (Or.inl ⟨wantS_ok γ hw, fun w hS => q3 w (fun b hb => hS.1 j hj b ?_)⟩) (SPd_of hgd' hB) (act_put γ S o.dst s).symm (hg γ W hk hl hB (okT_put hT q1) hgd)
        rw [← hgd'.2.2.2.1 rfl j hj]
        exact hb
       ·cases h
      ·cases h
     ·split at h
      ·rename_i hc
       obtain ⟨rfl, rfl⟩ := Prod.mk.inj (Option.some.inj h)
       exact sel_step (o := o) hc hg
      ·cases h
     ·split at h
      ·rename_i hc
       obtain ⟨rfl, rfl⟩ := Prod.mk.inj (Option.some.inj h)
       exact sel_step (o := o) hc hg
      ·cases h
     ·split at h
      ·rename_i hc
       obtain ⟨rfl, rfl⟩ := Prod.mk.inj (Option.some.inj h)
       exact sel_step (o := o) hc hg
      ·cases h
     ·split at h
      ·rename_i hc
       obtain ⟨rfl, rfl⟩ := Prod.mk.inj (Option.some.inj h)
       exact sel_step (o := o) hc hg
      ·cases h
     ·split at h
      ·rename_i hc
       obtain ⟨rfl, rfl⟩ := Prod.mk.inj (Option.some.inj h)
       exact sel_step (o := o) hc hg
      ·cases h
     ·rename_i c hop
      split at h
      ·split at h
       ·rename_i hc
        obtain ⟨s, h1, h2⟩ := map_some' h
        rw [← hop] at h1
        obtain ⟨rfl, rfl⟩ := Prod.mk.inj h2
        intro γ W hk hl hB hT hgd
        obtain ⟨q1, q2⟩ := pv_ok hE (γ := γ) hT h1
        exact pure_ (lbn D.n (m ||| 2 ^ i)) ho rfl (any_of hgd.1 hc) (hQ _ _) (Or.inl ⟨wantS_ok γ hw, q1⟩) (act_put γ S o.dst s).symm (hg γ W hk hl hB (okT_put hT q2) hgd)
       ·cases h
      ·split at h
       ·rename_i hc
        obtain ⟨rfl, rfl⟩ := Prod.mk.inj (Option.some.inj h)
        exact sel_step (o := o) hc hg
       ·cases h
     ·split at h
      ·rename_i hc
       obtain ⟨s, h1, h2⟩ := map_some' h
       obtain ⟨rfl, rfl⟩ := Prod.mk.inj h2
       intro γ W hk hl hB hT hgd
       obtain ⟨q1, q2⟩ := pv_ok hE (γ := γ) hT h1
       exact pure_ (lbn D.n (m ||| 2 ^ i)) ho rfl (any_of hgd.1 hc) (hQ _ _) (Or.inl ⟨wantS_ok γ hw, q1⟩) (act_put γ S o.dst s).symm (hg γ W hk hl hB (okT_put hT q2) hgd)
      ·cases h
theorem exec_L {S S' : St} {o : Oper} (h : exec P E S o = some S') : (∃ x, S'.L = S.L ++ [x]) ∨ S'.L = S.L ∨ ∃ t p x j of b, o.op = .store t p x ∧ opv S.T p = some (.ad j of) ∧ S'.L = S.L.set j b := by
 unfold exec at h
 split at h
 ·obtain ⟨s, h1, h2⟩ := map_some' h
  exact .inr (.inl (by rw [← h2]; rfl))
 ·rename_i t p x ho
  split at h
  ·rename_i a b hd hp hx
   unfold stv at h
   split at h
   ·rename_i i of
    split at h
    ·split at h
     ·obtain rfl := Option.some.inj h
      exact .inr (.inr ⟨t, p, x, i, of, _, ho, hp, rfl⟩)
     ·cases h
    ·cases h
   ·cases h
  ·cases h
 ·rename_i t x ho
  obtain ⟨s, h1, h2⟩ := map_some' h
  exact .inl ⟨_, by rw [← h2]; rfl⟩
 ·rename_i t ho
  obtain ⟨s, h1, h2⟩ := map_some' h
  exact .inl ⟨_, by rw [← h2]; rfl⟩
 ·split at h
  ·obtain ⟨s, h1, h2⟩ := map_some' h
   exact .inl ⟨_, by rw [← h2]; rfl⟩
  ·cases h
 ·obtain ⟨s, h1, h2⟩ := map_some' h
  exact .inr (.inl (by rw [← h2]; rfl))
theorem stepS_ok (hE : E.ok P) {S S' : St} {D : DrI} {m fuel : Nat} {cl : Bool} {i : Nat} {ord : List Nat} {k : List Kt} {m' : Md} (h : stepS P E S D m fuel cl i ord k = some (m', S')) (hg : Go P Q W0 F kn R S' m') : Go P Q W0 F kn R S (.sel D m fuel cl i ord k) := by
 intro γ W hk hl hB hT hgd
 have hgd : D.good cl S.L R := hgd
 unfold stepS at h
 split at h
 ·cases h
 ·rename_i hset
  have hset' : (lbn D.n m).setIfInBounds i true = lbn D.n (m ||| 2 ^ i) := by simpa using set_of hset
  split at h
  ·cases h
  ·rename_i o ho
   show wpOp P D.ops (wpK P Q k) i (fun a' w' => (i ∉ D.ds → SPd γ D W → SPd γ D w') ∧ wpAnyLast P .any D.ops (wpK P Q k) (SPd γ D) D.ds fuel ((lbn D.n m).setIfInBounds i true) a' w') (S.act γ) W
   unfold wpOp
   rw [ho]
   simp only
   rw [hset']
   split at h
   ·cases h
   ·rename_i hw
    split at h
    ·obtain ⟨rfl, rfl⟩ := Prod.mk.inj (Option.some.inj h)
     rw [wantS_ok γ hw]
     simp only [Bool.false_eq_true, if_false]
     have := hg γ W hk hl hB (okT_put hT trivial) hgd
     rw [act_put] at this
     exact ⟨fun _ q => q, this⟩
    ·cases h
   ·rename_i hw
    split at h
    ·cases h
    ·rename_i cl' hcl
     obtain ⟨S1, h1, h2⟩ := map_some' h
     obtain ⟨rfl, rfl⟩ := Prod.mk.inj h2
     rw [wantS_ok γ hw]
     simp only [if_true]
     obtain ⟨γ', W1, n, q1, q2, q3, q4, q5, q6, q7⟩ := exec_ok hE hT h1 hB
     have hclx : (cl' = true → cl = true ∧ ∀ j, j ∈ D.ld → getB S1.L j = getB S.L j) ∧ (cl' = false → i ∈ D.ds) := by
      unfold selCl at hcl
      split at hcl
      ·rename_i t p x hop
       split at hcl
       ·rename_i j of hp
        split at hcl
        ·rename_i hc
         obtain rfl := Option.some.inj hcl
         simp only [Bool.and_eq_true, Bool.not_eq_true'] at hc
         refine ⟨fun _ => ⟨hc.1, fun j' hj' => ?_⟩, fun e => by cases e⟩
         rcases exec_L h1 with ⟨_, e⟩ | e | ⟨t1, p1, x1, j1, of1, b1, e1, e2, e3⟩
         ·rw [e, getB_app (hgd.2.2.1 j' hj').1]
         ·rw [e]
         ·rw [hop] at e1
          injection e1 with _ e1 _
          subst e1
          rw [hp] at e2
          injection e2 with e2
          injection e2 with e2 _
          subst e2
          rw [e3, getB_set_ne]
          intro e
          subst e
          have := hc.2
          rw [List.elem_iff.mpr hj'] at this
          cases this
        ·split at hcl
         ·rename_i hd
          obtain rfl := Option.some.inj hcl
          exact ⟨(fun e => by cases e), fun _ => List.elem_iff.mp hd⟩
         ·cases hcl
       ·cases hcl
      ·rename_i hns
       split at hcl
       ·rename_i hc
        obtain rfl := Option.some.inj hcl
        refine ⟨fun _ => ⟨rfl, fun j' hj' => ?_⟩, fun e => by cases e⟩
        rcases exec_L h1 with ⟨_, e⟩ | e | ⟨t1, p1, x1, j1, of1, b1, e1, e2, e3⟩
        ·rw [e, getB_app (hgd.2.2.1 j' hj').1]
        ·rw [e]
        ·exact absurd e1 (hns _ _ _)
       ·split at hcl
        ·rename_i hd
         obtain rfl := Option.some.inj hcl
         exact ⟨(fun e => by cases e), fun _ => List.elem_iff.mp hd⟩
        ·cases hcl
     have hgd2 : D.good cl' S1.L R := good_put hgd q4 cl' hclx.1 (fun _ h => h)
     have hr := hg γ' W1 (known_agr hk hl q3) (Nat.le_trans hl q4) q6 q5 hgd2
     refine Or.inl (oper_wp_of_exec q1 q2 (q7 _ ⟨fun hnd _ => ?_, ?_⟩))
     ·cases cl' with
      | false => exact absurd (hclx.2 rfl) hnd
      | true => rw [← SPd_agr hgd q3]; exact SPd_of hgd2 q6
     ·rw [← SPd_agr hgd q3]
      exact hr
theorem run_ok (hPQ : PQ Q) (hE : E.ok P) : ∀ (n : Nat) {m : Md} {S : St}, Go P Q W0 F kn R (runN P E n (m, S)).2 (runN P E n (m, S)).1 → Go P Q W0 F kn R S m
 | 0, _, _, h => h
 | n + 1, m, S, h => by
  unfold runN at h
  split at h
  ·rename_i y hy
   obtain ⟨m', S'⟩ := y
   have h2 := run_ok hPQ hE n h
   cases m with
   | ks k => exact stepK_ok hy h2
   | pl ops rest k => exact stepP_ok hE hy h2
   | dr D m fuel cl ord k => exact stepD_ok hPQ hE hy h2
   | sel D m fuel cl i ord k => exact stepS_ok hE hy h2
  ·exact h
end
end Go.Proofs.Ytbhakljebcmocaa.PBoundKeeps
end
section
namespace Go.Proofs.Ytbhakljebcmocaa.PBoundKeeps
open Go.RowKit Go.Proofs.YtbhakljebcmocaaW.PrintWords Go.Proofs.YtbhakljebcmocaaW.PrintLast Go.Proofs.YtbhakljebcmocaaW.PrintMore
set_option linter.unusedVariables false
set_option linter.unusedSimpArgs false
section
variable {P : Program} {E : TE} {Q : Exit → Act → World → Prop} {W0 : World} {F : Fr} {kn : List Nat} {R : List PRep} {S : St} {m : Md}
def RepAt (R : List PRep) (W : World) : Prop := ∀ r, r ∈ R → r.At W
theorem RepAt.get {R : List PRep} {W : World} (h : RepAt R W) (i : Nat) {r : PRep} (hi : R[i]? = some r) : r.At W := h _ (List.mem_of_getElem? hi)
theorem body_PQ {fn : Func} {Rp : Ending → World → Prop} : PQ (bodyPost P fn Rp) := fun c a d v w h => by
 cases d with
 | none => exact h
 | some d => exact h
theorem rf_run' (hPQ : PQ Q) (hE : E.ok P) (n : Nat) (h : ∀ x, x = runN P E n (m, S) → Go P Q W0 F kn R x.2 x.1) : Go P Q W0 F kn R S m := run_ok hPQ hE n (h _ rfl)
def condOf (S : St) : Md → Option Bool
 | .ks (.c (.cond c _ _) :: _) => match opv S.T c with
  | some (.v (.bool t)) => some t
  | _ => none
 | _ => none
def branch (t : Bool) : Md → Md
 | .ks (.c (.cond _ x y) :: k) => .ks (.c (match t with | true => x | false => y) :: k)
 | m => m
theorem rf_if {b : Bool} (h : condOf S m = some b) (ht : b = true → Go P Q W0 F kn R S (branch true m)) (hf : b = false → Go P Q W0 F kn R S (branch false m)) : Go P Q W0 F kn R S m := by
 unfold condOf at h
 split at h
 ·rename_i c x y k
  split at h
  ·rename_i t e
   obtain rfl := Option.some.inj h
   intro γ W hk hl hB hT hg
   have e1 : (S.act γ).eval c = .bool t := opv_eval e
   cases t with
   | true => exact wp_cond_true e1 (ht rfl γ W hk hl hB hT trivial)
   | false => exact wp_cond_false e1 (hf rfl γ W hk hl hB hT trivial)
  ·cases h
 ·cases h
theorem rf_case (d : Nat) {t : Bool} (h : S.T[d]? = some (.v (.bool t))) (ht : t = true → Go P Q W0 F kn R (S.put (some d) (.v (.bool true))) m) (hf : t = false → Go P Q W0 F kn R (S.put (some d) (.v (.bool false))) m) : Go P Q W0 F kn R S m := by
 have e : S.put (some d) (.v (.bool t)) = S := by
  obtain ⟨L, T⟩ := S
  show (⟨L, T.set d _⟩ : St) = _
  have hd := (List.getElem?_eq_some_iff.mp h)
  obtain ⟨h1, h2⟩ := hd
  rw [← h2, List.set_getElem_self]
 cases t with
 | true => rw [← e]; exact ht rfl
 | false => rw [← e]; exact hf rfl
def drawOf (S : St) (R : List PRep) (T : Bool × List (List Nat × List Nat)) (B ds ld ord : List Nat) : Md → Md
 | .ks (.c (.region _ ops _) :: k) => .dr ⟨ops, T, B, ds, ld, T.2.length, S.L, R⟩ 0 T.2.length true ord k
 | m => m
def rtabOf : Md → Option (Bool × List (List Nat × List Nat))
 | .ks (.c (.region _ ops true) :: _) => some (rtab .any ops)
 | _ => none
theorem lbn_zero (n : Nat) : Array.replicate n false = lbn n 0 := by
 unfold lbn
 apply Array.ext'
 rw [Array.toList_replicate]
 show List.replicate n false = (List.range n).map (fun i => (0 : Nat).testBit i)
 rw [← List.length_range (n := n), ← List.map_const' ]
 simp
theorem rf_draw (hm : P.follows .mixedOrders = true) (T : Bool × List (List Nat × List Nat)) (B ds ld ord : List Nat) (hT : rtabOf m = some T) (hB : waitsOk T.2 B = true) (hld : ld.all (fun j => j.blt S.L.length) = true) (h : Go P Q W0 F kn R S (drawOf S R T B ds ld ord m)) : Go P Q W0 F kn R S m := by
  unfold rtabOf at hT
  split at hT
  · rename_i id ops k
    have hT' := Option.some.inj hT
    intro γ W hk hl hBq hok hg
    show (Code.region id ops true).wp P _ _ _
    have hn : ops.size = T.2.length := by rw [← hT', rtab_length]
    have hgood : DrI.good ⟨ops, T, B, ds, ld, T.2.length, S.L, R⟩ true S.L R := ⟨hT', hB, fun j hj => ⟨by
        have := List.all_eq_true.mp hld j hj
        exact Nat.le_of_ble_eq_true this, fun b hb s hs => hBq.ok j b hb s hs⟩, fun _ j _ => rfl, fun r hr => hr⟩
    refine start_ (S := SPd γ ⟨ops, T, B, ds, ld, T.2.length, S.L, R⟩) (ds := ds) (lbn T.2.length 0) hm hn (lbn_zero _) (SPd_of hgood hBq.drew) (fun _ => ?_)
    exact h γ W.drew hk hl hBq.drew hok hgood
  · cases hT
def readyOf : Md → List Nat
 | .dr D m (_ + 1) _ _ _ => readyT D.T.2 (lbn D.n m).toList
 | _ => []
def selTo (i : Nat) (ord : List Nat) : Md → Md
 | .dr D m (f + 1) cl _ k => .sel D m f cl i ord k
 | m => m
theorem rf_fork (rs : List Nat) (ords : Nat → List Nat) (hr : readyOf m = rs) (hne : rs.isEmpty = false) (h : ∀ i, i ∈ rs → Go P Q W0 F kn R S (selTo i (ords i) m)) : Go P Q W0 F kn R S m := by
 unfold readyOf at hr
 split at hr
 ·rename_i D mm f cl ord k
  intro γ W hk hl hB hT hg
  have h2 : Region.ready .any D.ops (lbn D.n mm) = rs := by
   rw [ready_eq, hg.1]
   exact hr
  exact wpAnyLast_all h2 (by rintro rfl; cases hne) (fun j hj => h j hj γ W hk hl hB hT hg)
 ·subst hr; cases hne
def svsOf (T : List SV) : List Operand → Option (List SV)
 | [] => some []
 | x :: r => match opv T x, svsOf T r with
  | some s, some l => some (s :: l)
  | _, _ => none
theorem svsOf_ok {γ : Nat → Nat} : ∀ {xs : List Operand} {l : List SV}, svsOf S.T xs = some l → xs.map (S.act γ).eval = l.map (SV.den γ)
 | [], l, h => by obtain rfl := Option.some.inj h; rfl
 | x :: r, l, h => by
  unfold svsOf at h
  split at h
  ·rename_i s l' h1 h2
   obtain rfl := Option.some.inj h
   rw [List.map_cons, List.map_cons, svsOf_ok h2, opv_eval h1]
  ·cases h
def callArgs (T : List SV) (o : Oper) : Option (FuncId × List SV) := match o.op with
 | .call c => match c.callee with
  | .value (.func f) => (svsOf T c.args.toList).map (fun l => (f, l))
  | _ => none
 | _ => none
def wantedT (ops : Array Oper) (T : List SV) (o : Oper) : Option Unit := match wantS ops T o with
 | some true => some ()
 | _ => none
def callOf (S : St) : Md → Option (FuncId × List SV)
 | .pl ops (o :: _) _ => (wantedT ops S.T o).bind (fun _ => callArgs S.T o)
 | .sel D m _ cl i _ _ => match D.ops[i]? with
  | some o => match cl && ((lbn D.n m).toList.set i true == (lbn D.n (m ||| 2 ^ i)).toList) with
   | true => (wantedT D.ops S.T o).bind (fun _ => callArgs S.T o)
   | false => none
  | none => none
 | _ => none
def dstOf : Md → Option Tmp
 | .pl _ (o :: _) _ => o.dst
 | .sel D _ _ _ i _ _ => (D.ops[i]?).bind (·.dst)
 | _ => none
def after : Md → Md
 | .pl ops (_ :: r) k => .pl ops r k
 | .sel D m fuel cl i ord k => .dr D (m ||| 2 ^ i) fuel cl ord k
 | m => m
theorem wantedT_ok {ops : Array Oper} {o : Oper} {u : Unit} (h : wantedT ops S.T o = some u) (γ : Nat → Nat) : Region.wanted o (yielded ops (S.act γ).tmps) = true := by
 unfold wantedT at h
 split at h
 ·rename_i e
  exact wantS_ok γ e
 ·cases h
theorem callArgs_run {o : Oper} {f : FuncId} {svs : List SV} {fn : Func} (h : callArgs S.T o = some (f, svs)) (hf : P.funcs[f]? = some fn) (hn : (fn.name == "runtime.NumGoroutine") = false) (hb : fn.body.isSome = true) (γ : Nat → Nat) (W : World) :
    (execOp (S.act γ).eval o).run P W = .ok (.enter f (svs.map (SV.den γ)).toArray) W := by
  unfold callArgs at h
  split at h
  · rename_i c ho
    split at h
    · rename_i g hc
      obtain ⟨l, h1, h2⟩ := map_some' h
      obtain ⟨rfl, rfl⟩ := Prod.mk.inj h2
      have hargs : c.args.map (S.act γ).eval = (l.map (SV.den γ)).toArray := by
        rw [← svsOf_ok h1]
        exact Array.ext' (by rw [Array.toList_map])
      have he := enters_ hf hn hb (l.map (SV.den γ)).toArray W
      obtain ⟨callee, args, tys⟩ := c
      simp only at hc hargs
      unfold execOp
      simp [ho, hc, resolve, Deferred.ofValue, invoke, Act.eval, hargs, he]
    · cases h
  · cases h
theorem upon_enter {o : Oper} {a : Act} {W : World} {f : FuncId} {args : Array Value} {K : Act → World → Prop} {Q' : Exit → Act → World → Prop} (hrun : (execOp a.eval o).run P W = .ok (.enter f args) W)
    (h : Calls P f args W fun e W' => ∃ v, e = .returned v ∧ K (a.put o.dst v) W') : o.wp P a W K Q' := by
  unfold Oper.wp
  rw [hrun, Oper.upon_enter]
  exact h.mono fun e w'' hh => by obtain ⟨v, rfl, hk⟩ := hh; exact hk
theorem rf_callG {f : FuncId} {svs : List SV} {fn : Func} (h : callOf S m = some (f, svs)) (hf : P.funcs[f]? = some fn) (hn : (fn.name == "runtime.NumGoroutine") = false) (hb : fn.body.isSome = true)
    (hC : ∀ γ W, Known kn γ → Bq W0 F γ S.L R W → Calls P f (svs.map (SV.den γ)).toArray W (fun e W' => ∃ (v : SV) (N : List PRep), e = .returned (v.den γ) ∧ v.ok S.L.length ∧ Bq W0 F γ S.L (N ++ R) W' ∧ Go P Q W0 F kn (N ++ R) (S.put (dstOf m) v) (after m))) : Go P Q W0 F kn R S m := by
  intro γ W hk hl hB hT hg
  unfold callOf at h
  split at h
  · rename_i ops o r k
    obtain ⟨u, h1, h2⟩ := bind_some h
    show wpList P ops (wpK P Q k) (o :: r) _ _
    unfold wpList
    rw [wantedT_ok h1 γ]
    simp only [if_true]
    refine Or.inl (upon_enter (callArgs_run h2 hf hn hb γ W) ((hC γ W hk hB).mono ?_))
    rintro e W' ⟨v, N, rfl, hv, hB', hG⟩
    refine ⟨_, rfl, ?_⟩
    have := hG γ W' hk hl hB' (okT_put hT hv) trivial
    rw [act_put] at this
    exact this
  · rename_i D mm fuel cl i ord k
    split at h
    · rename_i o ho
      split at h
      · rename_i hc
        simp only [Bool.and_eq_true] at hc
        obtain ⟨c1, c2⟩ := hc
        subst c1
        obtain ⟨u, h1, h2⟩ := bind_some h
        have hset' : (lbn D.n mm).setIfInBounds i true = lbn D.n (mm ||| 2 ^ i) := by simpa using set_of c2
        show wpOp P D.ops (wpK P Q k) i (fun a' w' => (i ∉ D.ds → SPd γ D W → SPd γ D w') ∧ wpAnyLast P .any D.ops (wpK P Q k) (SPd γ D) D.ds fuel ((lbn D.n mm).setIfInBounds i true) a' w') (S.act γ) W
        unfold wpOp
        rw [ho]
        simp only
        rw [hset', wantedT_ok h1 γ]
        simp only [if_true]
        refine Or.inl (upon_enter (callArgs_run h2 hf hn hb γ W) ((hC γ W hk hB).mono ?_))
        rintro e W' ⟨v, N, rfl, hv, hB', hG⟩
        have hg' : D.good true S.L (N ++ R) := good_put hg (Nat.le_refl _) true (fun _ => ⟨rfl, fun _ _ => rfl⟩) (fun r hr => List.mem_append_right _ hr)
        refine ⟨_, rfl, fun _ _ => SPd_of hg' hB', ?_⟩
        have := hG γ W' hk hl hB' (okT_put hT hv) hg'
        rw [act_put] at this
        have e1 : dstOf (.sel D mm fuel true i ord k) = o.dst := by show (D.ops[i]?).bind (·.dst) = _; rw [ho]; rfl
        rw [e1] at this
        exact this
      · cases h
    · cases h
  · cases h
def FreshIn (R : List PRep) (W : World) (r : PRep) : Prop := ∀ k, r.bl k → W.heap.size ≤ k ∨ ∃ q, q ∈ R ∧ q.bl k
def NewOk (R : List PRep) (W W' : World) (N : List PRep) : Prop := ∀ r, r ∈ N → r.At W' ∧ FreshIn R W r
theorem NewOk.nil {R : List PRep} {W W' : World} : NewOk R W W' [] := fun _ h => by cases h
theorem NewOk.cons {R N : List PRep} {W W' : World} {r : PRep} (h1 : r.At W') (h2 : FreshIn R W r) (h : NewOk R W W' N) : NewOk R W W' (r :: N) := fun q hq => by
 rcases List.mem_cons.mp hq with rfl | hq
 ·exact ⟨h1, h2⟩
 ·exact h q hq
theorem Bq.news {γ : Nat → Nat} {L : List (Option SB)} {N : List PRep} {W W' : World} (hB : Bq W0 F γ L R W) (hbl : Below W.heap.size W W') (hN : NewOk R W W' N) : Bq W0 F γ L (N ++ R) W' := by
 refine (hB.below hbl).reps (fun r hr => ?_)
 rcases List.mem_append.mp hr with hr | hr
 ·obtain ⟨h1, h2⟩ := hN r hr
  refine .inr ⟨h1, fun i b hb hw hk => ?_, fun k hk => ?_⟩
  ·rcases h2 _ hk with q | ⟨u, hu, hq⟩
   ·have := blk_lt (hB.at_ i b hb).1
    omega
   ·exact hB.sep u hu i b hb hw hq
  ·rcases h2 _ hk with q | ⟨u, hu, hq⟩
   ·have := hB.hb.size
    omega
   ·exact hB.fr u hu k hq
 ·exact .inl hr
theorem rf_call {f : FuncId} (args : List Value) {fn : Func} (h : callOf S m = some (f, args.map .v)) (hf : P.funcs[f]? = some fn) (hn : (fn.name == "runtime.NumGoroutine") = false) (hb : fn.body.isSome = true)
    (hC : ∀ W, Tch F.w W0 W → RepAt R W → Calls P f args.toArray W (fun e W' => ∃ (v : Value) (N : List PRep), e = .returned v ∧ Below W.heap.size W W' ∧ NewOk R W W' N ∧ Go P Q W0 F kn (N ++ R) (S.put (dstOf m) (.v v)) (after m))) : Go P Q W0 F kn R S m := by
  refine rf_callG h hf hn hb (fun γ W hk hB => ?_)
  have e : (args.map SV.v).map (SV.den γ) = args := by rw [List.map_map]; exact (List.map_congr_left (fun a _ => rfl)).trans (List.map_id _)
  rw [e]
  refine (hC W hB.hb hB.rep).mono ?_
  rintro e W' ⟨v, N, rfl, hbl, hN, hG⟩
  exact ⟨.v v, N, rfl, trivial, hB.news hbl hN, hG⟩
def isEnd : Md → Bool
 | .ks (.c .ret :: _) => true
 | .ks [] => true
 | _ => false
def resV (E : TE) (S : St) : ResultVar → Option SV
 | .tmp t => S.T[t]?
 | .cell a t => (S.T[a]?).bind (ldv E S.L t)
def resAll (E : TE) (S : St) : List ResultVar → Option (List SV)
 | [] => some []
 | x :: r => match resV E S x, resAll E S r with
  | some s, some l => some (s :: l)
  | _, _ => none
def tup : List Value → Value
 | [v] => v
 | l => .tuple l.toArray
theorem resAll_run (hE : E.ok P) {γ : Nat → Nat} {W : World} (hB : Bq W0 F γ S.L R W) {f : ResultVar → Sem Value} (f1 : ∀ t, f (.tmp t) = pure ((S.act γ).tmps.getD t undef)) (f2 : ∀ a t, f (.cell a t) = (asAddr ((S.act γ).tmps.getD a undef) >>= fun p => loadVar t p)) :
    ∀ {rs : List ResultVar} {svs : List SV}, resAll E S rs = some svs → (rs.mapM f).run P W = .ok (svs.map (SV.den γ)) W
  | [], svs, h => by obtain rfl := Option.some.inj h; simp
  | x :: r, svs, h => by
    unfold resAll at h
    split at h
    · rename_i s l h1 h2
      obtain rfl := Option.some.inj h
      have ih := resAll_run hE hB f1 f2 h2
      rw [List.mapM_cons]
      cases x with
      | tmp t =>
        have h1' : S.T[t]? = some s := h1
        have e : (S.act γ).tmps.getD t undef = s.den γ := by simp [St.act, h1']
        simp only [f1, Sem.run_bind, Sem.run_pure, Result.andThen_ok, ih, e, List.map_cons]
      | cell a t =>
        have h1' : (S.T[a]?).bind (ldv E S.L t) = some s := h1
        obtain ⟨p, q1, q2⟩ := bind_some h1'
        cases p with
        | v y => cases q2
        | sl i n c => cases q2
        | ad i of =>
          have e : (S.act γ).tmps.getD a undef = .pointer (some ⟨γ i, of, none⟩) := by simp [St.act, q1, SV.den]
          have ea : (asAddr ((S.act γ).tmps.getD a undef)).run P W = .ok ⟨γ i, of, none⟩ W := by rw [e]; simp [asAddr]
          obtain ⟨_, _, q3⟩ := ldv_ok hE (γ := γ) hB.ok (o := ⟨none, .load t (.tmp a), 0, "", #[], none⟩) (x := .tmp a) rfl q1 q2
          have q4 := q3 W (fun b hb => (hB.at_ i b hb).1)
          have q5 : (loadVar t ⟨γ i, of, none⟩).run P W = .ok (s.den γ) W := by
            have e' : (S.act γ).eval (.tmp a) = .pointer (some ⟨γ i, of, none⟩) := e
            unfold execOp at q4
            simp only [e', Instr.loadAt, Instr.sureAddr, Sem.run_bind, Sem.run_pure, Result.andThen_ok] at q4
            cases hh : (loadVar t ⟨γ i, of, none⟩).run P W with
            | ok v w => rw [hh] at q4; simp at q4; rw [q4.1, q4.2]
            | halt a w => rw [hh] at q4; simp at q4
          simp only [f2, Sem.run_bind, Sem.run_pure, Result.andThen_ok, ih, ea, q5, List.map_cons]
    · cases h
theorem results_run (hE : E.ok P) {γ : Nat → Nat} {W : World} (hB : Bq W0 F γ S.L R W) {fn : Func} {svs : List SV} (h : resAll E S fn.results.toList = some svs) : (results fn (S.act γ).tmps).run P W = .ok (tup (svs.map (SV.den γ))) W := by
 unfold results
 rw [Array.mapM_eq_mapM_toList]
 simp only [Sem.run_bind, Sem.run_map]
 rw [resAll_run hE hB (fun t => rfl) (fun a t => rfl) h]
 simp only [Result.andThen_ok, Sem.run_pure]
 generalize svs.map (SV.den γ) = l
 match l with
 | [] => rfl
 | [v] => rfl
 | v :: u :: l => simp [tup]
theorem rf_retG (hE : E.ok P) {fn : Func} {Rp : Ending → World → Prop} {svs : List SV} (hm : isEnd m = true) (h : resAll E S fn.results.toList = some svs)
    (hP : ∀ γ W, Known kn γ → Bq W0 F γ S.L R W → Rp (.returned (tup (svs.map (SV.den γ)))) W) : Go P (bodyPost P fn Rp) W0 F kn R S m := by
  intro γ W hk hl hB hT hg
  have hr := results_run hE hB h
  unfold isEnd at hm
  split at hm
  · exact wp_ret (wpK_ret ⟨rfl, _, hr, hP γ W hk hB⟩)
  · exact ⟨rfl, _, hr, hP γ W hk hB⟩
  · cases hm
theorem rf_ret (hE : E.ok P) {fn : Func} {Rp : Ending → World → Prop} (vs : List Value) (hm : isEnd m = true) (h : resAll E S fn.results.toList = some (vs.map .v))
    (hP : ∀ W, Tch F.w W0 W → RepAt R W → (∀ r, r ∈ R → ∀ k, r.bl k → W0.heap.size ≤ k ∨ F.g k) → Rp (.returned (tup vs)) W) : Go P (bodyPost P fn Rp) W0 F kn R S m :=
  rf_retG hE hm h (fun γ W _ hB => by
    have e : (vs.map SV.v).map (SV.den γ) = vs := by rw [List.map_map]; exact (List.map_congr_left (fun a _ => rfl)).trans (List.map_id _)
    rw [e]
    exact hP W hB.hb hB.rep hB.fr)
def st0 (args : List Value) (n : Nat) : St := ⟨[], args.map .v ++ List.replicate (n - args.length) (.v undef)⟩
def bodyOf (fn : Func) : Code := fn.body.getD .skip
theorem body_some {fn : Func} (h : fn.body.isSome = true) : fn.body = some (bodyOf fn) := by
 unfold bodyOf
 cases hb : fn.body with
 | none => rw [hb] at h; cases h
 | some c => rfl
theorem rf_enter {f : FuncId} {fn : Func} {args : List Value} {W : World} {Rp : Ending → World → Prop} (R : List PRep) (hf : P.funcs[f]? = some fn) (hb : fn.body.isSome = true) (hR : ∀ r, r ∈ R → r.At W)
    (h : Go P (bodyPost P fn Rp) W ⟨NoF, fun k => ∃ q, q ∈ R ∧ q.bl k⟩ [] R (st0 args fn.ntmps) (.ks [.c (bodyOf fn)])) : Calls P f args.toArray W Rp := by
  refine calls_of_wp hf (body_some hb) ?_
  have h1 := h (fun _ => 0) W (by intro i g hi; simp at hi) (Nat.le_refl _) ⟨Tch.refl _ _, by simp [st0, getB], by simp [st0, getB], by simp [st0, getB], hR, by simp [st0, getB], fun r hr k hk => .inr ⟨r, hr, hk⟩⟩ (by
    intro s hs
    rcases List.mem_append.mp hs with hs | hs
    · obtain ⟨y, _, rfl⟩ := List.mem_map.mp hs; trivial
    · obtain rfl := (List.mem_replicate.mp hs).2; trivial) trivial
  have e : (st0 args fn.ntmps).act (fun _ => 0) = { tmps := args.toArray ++ Array.replicate (fn.ntmps - args.toArray.size) undef, defers := [] } := by
    unfold St.act st0
    congr 1
    apply Array.ext'
    simp only [List.map_append, List.map_map, List.map_replicate, Array.toList_append, Array.toList_replicate, List.size_toArray]
    congr 1
    exact (List.map_congr_left (fun a _ => rfl)).trans (List.map_id _)
  rw [e] at h1
  exact h1
end
end Go.Proofs.Ytbhakljebcmocaa.PBoundKeeps
end
section
namespace Go.Proofs.Ytbhakljebcmocaa.PBoundKeeps
open Go.RowKit Go.Proofs.YtbhakljebcmocaaW.PrintWords Go.Proofs.YtbhakljebcmocaaW.PrintLast Go.Proofs.YtbhakljebcmocaaW.PrintMore
set_option linter.unusedVariables false
set_option linter.unusedSimpArgs false
section
variable {P : Program} {E : TE} {Q : Exit → Act → World → Prop} {W0 : World} {F : Fr} {kn : List Nat} {R : List PRep} {S : St} {m : Md}
def setOrd (ord : List Nat) : Md → Md
 | .dr D m f cl _ k => .dr D m f cl ord k
 | .sel D m f cl i _ k => .sel D m f cl i ord k
 | m => m
theorem rf_ord (ord : List Nat) (h : Go P Q W0 F kn R S (setOrd ord m)) : Go P Q W0 F kn R S m := by
 cases m <;> exact h
theorem rf_fork2 (i j : Nat) (hr : readyOf m = [i, j]) (h1 : Go P Q W0 F kn R S (selTo i [] m)) (h2 : Go P Q W0 F kn R S (selTo j [] m)) : Go P Q W0 F kn R S m :=
 rf_fork [i, j] (fun _ => []) hr rfl (fun k hk => by
  rcases List.mem_cons.mp hk with rfl | hk
  ·exact h1
  ·obtain rfl := List.mem_singleton.mp hk; exact h2)
theorem rf_fork3 (i j k : Nat) (hr : readyOf m = [i, j, k]) (h1 : Go P Q W0 F kn R S (selTo i [] m)) (h2 : Go P Q W0 F kn R S (selTo j [] m)) (h3 : Go P Q W0 F kn R S (selTo k [] m)) : Go P Q W0 F kn R S m :=
 rf_fork [i, j, k] (fun _ => []) hr rfl (fun q hq => by
  rcases List.mem_cons.mp hq with rfl | hq
  ·exact h1
  ·rcases List.mem_cons.mp hq with rfl | hq
   ·exact h2
   ·obtain rfl := List.mem_singleton.mp hq; exact h3)
def JnAt {ι : Type} (W0 : World) (F : Fr) (kn : List Nat) (Sf : ι → St) (Rf : ι → List PRep) (I : ι → Prop) (a : Act) (W : World) : Prop :=
 ∃ x, I x ∧ ∃ γ, Known kn γ ∧ kn.length ≤ (Sf x).L.length ∧ Bq W0 F γ (Sf x).L (Rf x) W ∧ (Sf x).okT ∧ a = (Sf x).act γ
def cutOf (J : Act → World → Prop) : Md → Md
 | .ks (.c c :: k) => .ks (.c c :: .l J :: k)
 | m => m
def restOf : Md → Md
 | .ks (_ :: k) => .ks k
 | m => m
def cutOk : Md → Bool
 | .ks (.c _ :: _) => true
 | _ => false
theorem rf_cut {ι : Type} (Sf : ι → St) (Rf : ι → List PRep) (I : ι → Prop) (hm : cutOk m = true) (h1 : Go P Q W0 F kn R S (cutOf (JnAt W0 F kn Sf Rf I) m)) (h2 : ∀ x, I x → Go P Q W0 F kn (Rf x) (Sf x) (restOf m)) : Go P Q W0 F kn R S m := by
 unfold cutOk at hm
 split at hm
 ·rename_i c k
  intro γ W hk hl hB hT hg
  have h3 : c.wp P (Exit.then (JnAt W0 F kn Sf Rf I) (wpK P Q k)) _ W := h1 γ W hk hl hB hT trivial
  show c.wp P (wpK P Q k) _ W
  refine Code.wp_mono (fun e a w hq => ?_) h3
  cases e with
  | normal =>
   obtain ⟨x, hx, γ', q1, q2, q3, q4, rfl⟩ := hq
   exact h2 x hx γ' w q1 q2 q3 q4 trivial
  | _ => exact hq
 ·cases hm
def lOf : Md → Option (Act → World → Prop)
 | .ks (.l J :: _) => some J
 | _ => none
theorem rf_join {ι : Type} {Sf : ι → St} {Rf : ι → List PRep} {I : ι → Prop} (x : ι) (hm : lOf m = some (JnAt W0 F kn Sf Rf I)) (hx : I x) (hS : S = Sf x) (hR : ∀ r, r ∈ Rf x → r ∈ R) : Go P Q W0 F kn R S m := by
 unfold lOf at hm
 split at hm
 ·rename_i J k
  obtain rfl := Option.some.inj hm
  subst hS
  intro γ W hk hl hB hT hg
  exact ⟨x, hx, γ, hk, hl, hB.reps (fun r hr => .inl (hR r hr)), hT, rfl⟩
 ·cases hm
def LpAt {ι : Type} (W0 : World) (F : Fr) (kn : List Nat) (Sf : ι → St) (Rf : ι → List PRep) (I : ι → Prop) (μ : ι → Nat) (n : Nat) (a : Act) (W : World) : Prop :=
 ∃ x, (I x ∧ μ x < n) ∧ ∃ γ, Known kn γ ∧ kn.length ≤ (Sf x).L.length ∧ Bq W0 F γ (Sf x).L (Rf x) W ∧ (Sf x).okT ∧ a = (Sf x).act γ
def loopOf (J : Act → World → Prop) : Md → Md
 | .ks (.c (.loop c) :: k) => .ks (.c c :: .l J :: k)
 | m => m
def isLoop : Md → Bool
 | .ks (.c (.loop _) :: _) => true
 | _ => false
theorem rf_loop {ι : Type} (Sf : ι → St) (Rf : ι → List PRep) (I : ι → Prop) (μ : ι → Nat) (hm : isLoop m = true) (x0 : ι) (h0 : I x0) (hS : S = Sf x0) (hR : ∀ r, r ∈ Rf x0 → r ∈ R)
    (h : ∀ x, I x → Go P Q W0 F kn (Rf x) (Sf x) (loopOf (LpAt W0 F kn Sf Rf I μ (μ x)) m)) : Go P Q W0 F kn R S m := by
  unfold isLoop at hm
  split at hm
  · rename_i c k
    subst hS
    intro γ W hk hl hB hT hg
    show (Code.loop c).wp P (wpK P Q k) _ W
    intro b kk cs
    have key : ∀ (n : Nat) (x : ι) (γ : Nat → Nat) (W : World), μ x = n → I x → Known kn γ → kn.length ≤ (Sf x).L.length → Bq W0 F γ (Sf x).L (Rf x) W → (Sf x).okT →
        ∃ e a' w', wpK P Q k e a' w' ∧ Arrives P (lone (b.at ((Sf x).act γ) (.code c :: .inLoop c :: kk)) cs W) b kk cs e a' w' := by
      intro n
      induction n using Nat.strongRecOn with
      | _ n ih =>
        intro x γ W hn hx hk hl hB hT
        have h1 : c.wp P (Exit.then (LpAt W0 F kn Sf Rf I μ (μ x)) (wpK P Q k)) _ W := h x hx γ W hk hl hB hT trivial
        obtain ⟨e, a1, w1, hq, harr⟩ := h1 b (.inLoop c :: kk) cs
        cases e with
        | normal =>
          obtain ⟨y, ⟨hy, hlt⟩, γ', q1, q2, q3, q4, rfl⟩ := hq
          obtain ⟨e2, a2, w2, hq2, harr2⟩ := ih (μ y) (hn ▸ hlt) y γ' w1 rfl hy q1 q2 q3 q4
          exact ⟨e2, a2, w2, hq2, .of_steps (Steps.trans harr (.one step_inLoop)) harr2⟩
        | exit id => exact ⟨_, a1, w1, hq, .pass (x := .inLoop c) rfl (fun _ _ => .inl (by simp)) harr⟩
        | goto l => exact ⟨_, a1, w1, hq, .pass (x := .inLoop c) rfl (fun _ _ => .inl (by simp)) harr⟩
        | ret => exact ⟨_, a1, w1, hq, .pass (x := .inLoop c) rfl (fun _ _ => .inl (by simp)) harr⟩
        | panic ch => exact ⟨_, a1, w1, hq, .pass (x := .inLoop c) rfl (fun _ _ => .inl (by simp)) harr⟩
        | outgrown => exact ⟨_, a1, w1, hq, .pass (x := .inLoop c) rfl (fun _ _ => .inl (by simp)) harr⟩
    obtain ⟨e, a', w', hq, harr⟩ := key _ x0 γ W rfl h0 hk hl (hB.reps (fun r hr => .inl (hR r hr))) hT
    exact ⟨e, a', w', hq, .of_steps (.one step_loop) harr⟩
  · cases hm
theorem rf_again {ι : Type} {Sf : ι → St} {Rf : ι → List PRep} {I : ι → Prop} {μ : ι → Nat} {n : Nat} (x : ι) (hm : lOf m = some (LpAt W0 F kn Sf Rf I μ n)) (hx : I x ∧ μ x < n) (hS : S = Sf x) (hR : ∀ r, r ∈ Rf x → r ∈ R) : Go P Q W0 F kn R S m := by
 unfold lOf at hm
 split at hm
 ·rename_i J k
  obtain rfl := Option.some.inj hm
  subst hS
  intro γ W hk hl hB hT hg
  exact ⟨x, hx, γ, hk, hl, hB.reps (fun r hr => .inl (hR r hr)), hT, rfl⟩
 ·cases hm
end
end Go.Proofs.Ytbhakljebcmocaa.PBoundKeeps
end
section
namespace Go.Proofs.Ytbhakljebcmocaa.PBoundKeeps
open Go.RowKit Go.Proofs.YtbhakljebcmocaaW.PrintWords Go.Proofs.YtbhakljebcmocaaW.PrintLast Go.Proofs.YtbhakljebcmocaaW.PrintMore
set_option linter.unusedVariables false
set_option linter.unusedSimpArgs false
section
variable {P : Program} {E : TE} {Q : Exit → Act → World → Prop} {W0 : World} {F : Fr} {kn : List Nat} {R : List PRep} {S : St} {m : Md}
def opIn (S : St) : Md → Option Oper
 | .pl ops (o :: _) _ => (wantedT ops S.T o).map (fun _ => o)
 | .dr D _ (_ + 1) _ (i :: _) _ => match D.ops[i]? with
  | some o => (wantedT D.ops S.T o).map (fun _ => o)
  | none => none
 | .sel D _ _ _ i _ _ => match D.ops[i]? with
  | some o => (wantedT D.ops S.T o).map (fun _ => o)
  | none => none
 | _ => none
def afterV : Md → Md
 | .pl ops (_ :: r) k => .pl ops r k
 | .dr D m (f + 1) cl (i :: ord) k => .dr D (m ||| 2 ^ i) f cl ord k
 | .sel D m f cl i ord k => .dr D (m ||| 2 ^ i) f cl ord k
 | m => m
def okY : Md → Bool
 | .pl _ _ _ => true
 | .dr D m (_ + 1) _ (i :: _) _ => anyT D.T (lbn D.n m).toList (lbn D.n (m ||| 2 ^ i)).toList i
 | _ => false
def okTk : Md → Bool
 | .pl _ _ _ => true
 | .dr D m (_ + 1) cl (i :: _) _ => cl && takeW D.T D.B D.ds (lbn D.n m).toList (lbn D.n (m ||| 2 ^ i)).toList i
 | _ => false
def r0Of (R : List PRep) : Md → List PRep
 | .dr D _ _ _ _ _ => D.R0
 | _ => R
def ldIn : Md → Nat → Bool
 | .dr D _ _ _ _ _, j => D.ld.elem j
 | _, _ => true
def OwnAt (γ : Nat → Nat) (L : List (Option SB)) (m : Md) (W : World) : Prop := ∀ (j : Nat) (b : SB), ldIn m j = true → getB L j = some b → W.heap[γ j]? = some (.cells (b.cs.map (SV.den γ)).toArray b.t (0, 0))
theorem oper_value {o : Oper} {a : Act} {W : World} {v : Value} {K : Act → World → Prop} {Q' : Exit → Act → World → Prop} (hrun : (execOp a.eval o).run P W = .ok (.value v) W) (hK : K (a.put o.dst v) W) : o.wp P a W K Q' := by
 unfold Oper.wp
 rw [hrun]
 exact hK
theorem rf_valY (hPQ : PQ Q) {o : Oper} {s : SV} (ho : opIn S m = some o) (hok : okY m = true) (hs : s.ok S.L.length) (hv : ∀ γ w, (execOp (S.act γ).eval o).run P w = .ok (.value (s.den γ)) w) (h : Go P Q W0 F kn R (S.put o.dst s) (afterV m)) : Go P Q W0 F kn R S m := by
 intro γ W hk hl hB hT hg
 unfold opIn at ho
 split at ho
 ·rename_i ops o' r k
  obtain ⟨u, h1, rfl⟩ := map_some' ho
  show wpList P ops (wpK P Q k) (o' :: r) _ _
  unfold wpList
  rw [wantedT_ok h1 γ]
  simp only [if_true]
  refine Or.inl (oper_value (hv γ W) ?_)
  have := h γ W hk hl hB (okT_put hT hs) trivial
  rw [act_put] at this
  exact this
 ·rename_i D mm f cl i ord k
  have hQ : ∀ (d : Option Tmp) (v : Value) (c : List PanicEntry) (a : Act) (w : World), wpK P Q k (.panic c) (a.put d v) w → wpK P Q k (.panic c) a w := fun d v c a w q => wpK_panic.mpr (hPQ c a d v w (wpK_panic.mp q))
  split at ho
  ·rename_i o' hi
   obtain ⟨u, h1, rfl⟩ := map_some' ho
   exact pure_ (lbn D.n (mm ||| 2 ^ i)) hi rfl (any_of hg.1 hok) (hQ _ _) (Or.inl ⟨wantedT_ok h1 γ, hv γ⟩) (act_put γ S o'.dst s).symm (h γ W hk hl hB (okT_put hT hs) hg)
  ·cases ho
 ·cases hok
 ·cases ho
theorem rf_valT (hPQ : PQ Q) {o : Oper} {s : SV} (ho : opIn S m = some o) (hok : okTk m = true) (hs : s.ok S.L.length) (hv : ∀ γ w, RepAt (r0Of R m) w → OwnAt γ S.L m w → (execOp (S.act γ).eval o).run P w = .ok (.value (s.den γ)) w) (h : Go P Q W0 F kn R (S.put o.dst s) (afterV m)) : Go P Q W0 F kn R S m := by
 intro γ W hk hl hB hT hg
 unfold opIn at ho
 split at ho
 ·rename_i ops o' r k
  obtain ⟨u, h1, rfl⟩ := map_some' ho
  show wpList P ops (wpK P Q k) (o' :: r) _ _
  unfold wpList
  rw [wantedT_ok h1 γ]
  simp only [if_true]
  refine Or.inl (oper_value (hv γ W hB.rep (fun j b _ hb => (hB.at_ j b hb).1)) ?_)
  have := h γ W hk hl hB (okT_put hT hs) trivial
  rw [act_put] at this
  exact this
 ·rename_i D mm f cl i ord k
  have hQ : ∀ (d : Option Tmp) (v : Value) (c : List PanicEntry) (a : Act) (w : World), wpK P Q k (.panic c) (a.put d v) w → wpK P Q k (.panic c) a w := fun d v c a w q => wpK_panic.mpr (hPQ c a d v w (wpK_panic.mp q))
  split at ho
  ·rename_i o' hi
   obtain ⟨u, h1, rfl⟩ := map_some' ho
   have hok' : (cl && takeW D.T D.B D.ds (lbn D.n mm).toList (lbn D.n (mm ||| 2 ^ i)).toList i) = true := hok
   rw [Bool.and_eq_true] at hok'
   obtain ⟨c1, c2⟩ := hok'
   subst c1
   have hg' : D.good true S.L R := hg
   refine take_ (lbn D.n (mm ||| 2 ^ i)) hi rfl (take_ofW hg.1 hg.2.1 c2) (hQ _ _) (Or.inl ⟨wantedT_ok h1 γ, fun w hS => hv γ w hS.2 (fun j b hj hb => hS.1 j (List.elem_iff.mp hj) b ?_)⟩) (SPd_of hg' hB) (act_put γ S o'.dst s).symm (h γ W hk hl hB (okT_put hT hs) hg)
   rw [← hg'.2.2.2.1 rfl j (List.elem_iff.mp hj)]
   exact hb
  ·cases ho
 ·cases hok
 ·cases ho
inductive Shp where
 | ix (t : TypeId) (x i : SV)
 | ld (t : TypeId) (p : SV)
 | st (t : TypeId) (p x : SV)
 | ap (t : TypeId) (s x : SV)
 | mk (t : TypeId) (l c : SV)
def shpOf (T : List SV) (o : Oper) : Option Shp := match o.op with
 | .indexAddr t x i => match opv T x, opv T i with
  | some x, some i => some (.ix t x i)
  | _, _ => none
 | .load t p => (opv T p).map (.ld t)
 | .store t p x => match o.dst, opv T p, opv T x with
  | none, some p, some x => some (.st t p x)
  | _, _, _ => none
 | .makeSlice t l c => match opv T l, opv T c with
  | some l, some c => some (.mk t l c)
  | _, _ => none
 | .call c => match c.callee with
  | .builtin b => match b with
   | .append => match c.args.toList, c.argTypes.toList with
    | [s, x], [t, u] => match t == u with
     | true => match opv T s, opv T x with
      | some s, some x => some (.ap t s x)
      | _, _ => none
     | false => none
    | _, _ => none
   | _ => none
  | _ => none
 | _ => none
def shp (S : St) (m : Md) : Option Shp := (opIn S m).bind (shpOf S.T)
def dstV (S : St) (m : Md) : Option Tmp := (opIn S m).bind (·.dst)
theorem shp_op {x : Shp} (h : shp S m = some x) : ∃ o, opIn S m = some o ∧ shpOf S.T o = some x ∧ dstV S m = o.dst := by
 obtain ⟨o, h1, h2⟩ := bind_some h
 exact ⟨o, h1, h2, by unfold dstV; rw [h1]; rfl⟩
theorem shp_ix {o : Oper} {t : TypeId} {x i : SV} (h : shpOf S.T o = some (.ix t x i)) (γ : Nat → Nat) (w : World) (v : Value) (hr : (Instr.indexAt t (x.den γ) (i.den γ)).run P w = .ok v w) : (execOp (S.act γ).eval o).run P w = .ok (.value v) w := by
 unfold shpOf at h
 split at h
 ·rename_i t' x' i' ho
  split at h
  ·rename_i a b h1 h2
   obtain ⟨rfl, rfl, rfl⟩ := Shp.ix.inj (Option.some.inj h)
   unfold execOp
   simp [ho, opv_eval h1, opv_eval h2, hr]
  ·cases h
 ·obtain ⟨_, _, h2⟩ := map_some' h; cases h2
 ·split at h <;> cases h
 ·split at h <;> cases h
 ·repeat' (split at h <;> try (cases h; done))
 ·cases h
theorem shp_ld {o : Oper} {t : TypeId} {p : SV} (h : shpOf S.T o = some (.ld t p)) (γ : Nat → Nat) (w : World) (v : Value) (hr : (Instr.loadAt t (p.den γ)).run P w = .ok v w) : (execOp (S.act γ).eval o).run P w = .ok (.value v) w := by
 unfold shpOf at h
 split at h
 ·split at h <;> cases h
 ·rename_i t' p' ho
  obtain ⟨a, h1, h2⟩ := map_some' h
  obtain ⟨rfl, rfl⟩ := Shp.ld.inj h2
  unfold execOp
  simp [ho, opv_eval h1, hr]
 ·split at h <;> cases h
 ·split at h <;> cases h
 ·repeat' (split at h <;> try (cases h; done))
 ·cases h
theorem run_indexAt (hE : E.ok P) {t e s b : Nat} (hel : E.el.lookup t = some (e, s, b)) (a : Addr) (n c : Nat) (k : IntKind) (i : Int) (h0 : 0 ≤ i) (h1 : i < n) (w : World) :
    (Instr.indexAt t (.slice (some a) n c) (.int k i)).run P w = .ok (.pointer (some (a.add (i.toNat * s)))) w := by
  obtain ⟨hu, ti, z, hi, hz, hs1, _⟩ := hE.el _ _ _ _ hel
  simp [Instr.indexAt, asIntOf, run_underlying hu, sizeOf, typeInfo, hi, hs1, h0, h1]
theorem rf_ixF (hPQ : PQ Q) (hE : E.ok P) {t e s b : Nat} {A : Option Addr} (a : Addr) {n c : Nat} {k : IntKind} {i : Int} (h : shp S m = some (.ix t (.v (.slice A n c)) (.v (.int k i)))) (hok : okY m = true) (hel : E.el.lookup t = some (e, s, b)) (hA : A = some a) (h0 : 0 ≤ i) (h1 : i < n)
    (hG : Go P Q W0 F kn R (S.put (dstV S m) (.v (.pointer (some (a.add (i.toNat * s)))))) (afterV m)) : Go P Q W0 F kn R S m := by
  obtain ⟨o, q1, q2, q3⟩ := shp_op h
  subst hA
  rw [q3] at hG
  exact rf_valY hPQ q1 hok (s := .v _) trivial (fun γ w => shp_ix q2 γ w _ (run_indexAt hE hel a n c k i h0 h1 w)) hG
theorem rf_ixO (hPQ : PQ Q) (hE : E.ok P) {t e s b : Nat} {j n c : Nat} {k : IntKind} {i : Int} (h : shp S m = some (.ix t (.sl j n c) (.v (.int k i)))) (hok : okY m = true) (hj : j < S.L.length) (hel : E.el.lookup t = some (e, s, b)) (h0 : 0 ≤ i) (h1 : i < n)
    (hG : Go P Q W0 F kn R (S.put (dstV S m) (.ad j (i.toNat * s))) (afterV m)) : Go P Q W0 F kn R S m := by
  obtain ⟨o, q1, q2, q3⟩ := shp_op h
  rw [q3] at hG
  refine rf_valY hPQ q1 hok (s := .ad j (i.toNat * s)) hj (fun γ w => shp_ix q2 γ w _ ?_) hG
  have := run_indexAt hE hel ⟨γ j, 0, none⟩ n c k i h0 h1 w
  rw [wq_add, Nat.zero_add] at this
  exact this
theorem rf_ldF (hPQ : PQ Q) {t : Nat} {p v : Value} (R0 : List PRep) (h : shp S m = some (.ld t (.v p))) (hok : okTk m = true) (hR0 : r0Of R m = R0) (hv : ∀ w, RepAt R0 w → (Instr.loadAt t p).run P w = .ok v w)
    (hG : Go P Q W0 F kn R (S.put (dstV S m) (.v v)) (afterV m)) : Go P Q W0 F kn R S m := by
  obtain ⟨o, q1, q2, q3⟩ := shp_op h
  subst hR0
  rw [q3] at hG
  exact rf_valT hPQ q1 hok (s := .v v) trivial (fun γ w hR _ => shp_ld q2 γ w _ (hv w hR)) hG
theorem rf_ldO1 (hPQ : PQ Q) (hE : E.ok P) {t k j of : Nat} {b : SB} (s : SV) (h : shp S m = some (.ld t (.ad j of))) (hok : okTk m = true) (hld : ldIn m j = true) (hb : getB S.L j = some b) (hsz : E.sz.lookup t = some (false, k)) (hs : b.cs[of]? = some s) (hso : s.ok S.L.length)
    (hG : Go P Q W0 F kn R (S.put (dstV S m) s) (afterV m)) : Go P Q W0 F kn R S m := by
  obtain ⟨o, q1, q2, q3⟩ := shp_op h
  rw [q3] at hG
  obtain ⟨⟨d, d1, d2⟩, d3⟩ := hE.sz _ _ _ hsz
  exact rf_valT hPQ q1 hok hso (fun γ w _ hO => shp_ld q2 γ w _ (wq_load_one t d1 (by cases d <;> first | rfl | (simp [isAg] at d2)) (hO j b hld hb) (by simp [hs]))) hG
end
end Go.Proofs.Ytbhakljebcmocaa.PBoundKeeps
end
section
namespace Go.Proofs.Ytbhakljebcmocaa.PBoundKeeps
open Go.RowKit Go.Proofs.YtbhakljebcmocaaW.PrintWords Go.Proofs.YtbhakljebcmocaaW.PrintLast Go.Proofs.YtbhakljebcmocaaW.PrintMore
set_option linter.unusedVariables false
set_option linter.unusedSimpArgs false
section
variable {P : Program} {E : TE} {Q : Exit → Act → World → Prop} {W0 : World} {F : Fr} {kn : List Nat} {R : List PRep} {S : St} {m : Md}
def setCl (cl : Bool) : Md → Md
 | .dr D m f _ ord k => .dr D m f cl ord k
 | m => m
def pick2 (c a b : Bool) : Bool := match c with
 | true => a
 | false => b
def okS (cl' : Bool) : Md → Bool
 | .pl _ _ _ => true
 | .sel D m _ cl i _ _ => ((lbn D.n m).toList.set i true == (lbn D.n (m ||| 2 ^ i)).toList) && pick2 cl' cl (D.ds.elem i)
 | _ => false
def ldOf : Md → List Nat
 | .sel D _ _ _ _ _ _ => D.ld
 | _ => []
def Eff (P : Program) (Q : Exit → Act → World → Prop) (W0 : World) (F : Fr) (kn : List Nat) (R : List PRep) (S : St) (o : Oper) (keepL : List Nat) (G : St → Prop) (γ : Nat → Nat) (W : World) : Prop :=
 ∃ n W1 γ' S', (execOp (S.act γ).eval o).run P W = .ok n W1 ∧ (n = .skip ∨ ∃ v, n = .value v) ∧ Agr S.L.length γ γ' ∧ S.L.length ≤ S'.L.length ∧ S'.okT ∧ Bq W0 F γ' S'.L R W1 ∧ (∀ K : Act → World → Prop, K (S'.act γ') W1 → NextK K o.dst (S.act γ) W1 n) ∧ (∀ j, j ∈ keepL → j < S.L.length → getB S'.L j = getB S.L j) ∧ G S'
theorem rf_eff {o : Oper} (cl' : Bool) (ho : opIn S m = some o) (hok : okS cl' m = true)
    (hv : ∀ γ W, Known kn γ → kn.length ≤ S.L.length → Bq W0 F γ S.L R W → S.okT → Eff P Q W0 F kn R S o (match cl' with | true => ldOf m | false => []) (fun S' => Go P Q W0 F kn R S' (setCl cl' (afterV m))) γ W) : Go P Q W0 F kn R S m := by
  intro γ W hk hl hB hT hg
  obtain ⟨n, W1, γ', S', q1, q2, q3, q4, q5, q6, q7, q8, q9⟩ := hv γ W hk hl hB hT
  unfold opIn at ho
  split at ho
  · rename_i ops o' r k
    obtain ⟨u, h1, rfl⟩ := map_some' ho
    show wpList P ops (wpK P Q k) (o' :: r) _ _
    unfold wpList
    rw [wantedT_ok h1 γ]
    simp only [if_true]
    exact Or.inl (oper_wp_of_exec q1 q2 (q7 _ (q9 γ' W1 (known_agr hk hl q3) (Nat.le_trans hl q4) q6 q5 trivial)))
  · cases hok
  · rename_i D mm f cl i ord k
    split at ho
    · rename_i o' hi
      obtain ⟨u, h1, rfl⟩ := map_some' ho
      have hok' : (((lbn D.n mm).toList.set i true == (lbn D.n (mm ||| 2 ^ i)).toList) && pick2 cl' cl (D.ds.elem i)) = true := hok
      rw [Bool.and_eq_true] at hok'
      obtain ⟨c1, c2⟩ := hok'
      have hset' : (lbn D.n mm).setIfInBounds i true = lbn D.n (mm ||| 2 ^ i) := by simpa using set_of c1
      have hg' : D.good cl S.L R := hg
      have hgd2 : D.good cl' S'.L R := good_put hg' q4 cl' (fun e => by
        subst e
        exact ⟨c2, fun j hj => q8 j hj (hg'.2.2.1 j hj).1⟩) (fun _ h => h)
      have hr := q9 γ' W1 (known_agr hk hl q3) (Nat.le_trans hl q4) q6 q5 hgd2
      show wpOp P D.ops (wpK P Q k) i (fun a' w' => (i ∉ D.ds → SPd γ D W → SPd γ D w') ∧ wpAnyLast P .any D.ops (wpK P Q k) (SPd γ D) D.ds f ((lbn D.n mm).setIfInBounds i true) a' w') (S.act γ) W
      unfold wpOp
      rw [hi]
      simp only
      rw [hset', wantedT_ok h1 γ]
      simp only [if_true]
      refine Or.inl (oper_wp_of_exec q1 q2 (q7 _ ⟨fun hnd _ => ?_, ?_⟩))
      · cases cl' with
        | false => exact absurd (List.elem_iff.mp c2) hnd
        | true => rw [← SPd_agr hg' q3]; exact SPd_of hgd2 q6
      · rw [← SPd_agr hg' q3]
        exact hr
    · cases ho
  · cases ho
theorem shp_st {o : Oper} {t : TypeId} {p x : SV} (h : shpOf S.T o = some (.st t p x)) : o.dst = none ∧ ∃ a b, o.op = .store t a b ∧ opv S.T a = some p ∧ opv S.T b = some x := by
 unfold shpOf at h
 split at h
 ·split at h <;> cases h
 ·obtain ⟨_, _, h2⟩ := map_some' h; cases h2
 ·rename_i t' p' x' ho
  split at h
  ·rename_i a b hd h1 h2
   obtain ⟨rfl, rfl, rfl⟩ := Shp.st.inj (Option.some.inj h)
   exact ⟨hd, _, _, ho, h1, h2⟩
  ·cases h
 ·split at h <;> cases h
 ·repeat' (split at h <;> try (cases h; done))
 ·cases h
theorem rf_stO (hE : E.ok P) (cl' : Bool) {t k j of e : Nat} {ag : Bool} {x : SV} {cs : List SV} (cs' : List SV) (h : shp S m = some (.st t (.ad j of) x)) (hok : okS cl' m = true) (hsz : E.sz.lookup t = some (ag, k)) (hb : getB S.L j = some ⟨true, e, cs⟩) (hl : (cellsOf x).length = k) (h1 : (cellsOf x).all one1 = true) (hin : of + k ≤ cs.length) (hcs : lput cs of (cellsOf x) = cs') (hld : cl' = true → j ∉ ldOf m)
    (hG : Go P Q W0 F kn R ⟨S.L.set j (some ⟨true, e, cs'⟩), S.T⟩ (setCl cl' (afterV m))) : Go P Q W0 F kn R S m := by
  obtain ⟨o, q1, q2, q3⟩ := shp_op h
  obtain ⟨hd, a, b, ho, ha, hbx⟩ := shp_st q2
  refine rf_eff cl' q1 hok (fun γ W hk hkl hB hT => ?_)
  obtain ⟨_, d3⟩ := hE.sz _ _ _ hsz
  have hat := (hB.at_ j _ hb).1
  obtain ⟨w', r1, r2, r3⟩ := wq_run_store (P := P) (a := S.act γ) (vs := (cellsOf x).map (SV.den γ)) (cs' := (cs'.map (SV.den γ)).toArray) ho (opv_eval ha) (opv_eval hbx) cellsOf_den.symm d3 (by rw [List.length_map]; exact hl)
    (by rw [List.all_map, List.all_eq_true]; exact fun s hs => one1_den (List.all_eq_true.mp h1 s hs)) hat (by simp; omega) (by rw [wqPut_list _ _ _ (by simp; omega), ← hcs, lput_map])
  refine ⟨.skip, w', γ, _, r1, Or.inl rfl, Agr.refl γ, by simp, fun s hs => by rw [List.length_set]; exact hT s hs, ?_, fun K hK => by rw [hd]; exact hK, fun i hi _ => ?_, hG⟩
  · refine hB.put hb (fun s hs => ?_) r2 r3
    rw [← hcs] at hs
    rcases lput_mem hs with hs | hs
    · exact hB.ok j _ hb s hs
    · exact cellsOf_ok (opv_ok hT hbx) hs
  · cases cl' with
    | false => cases hi
    | true => exact getB_set_ne (fun e => hld rfl (by subst e; exact hi))
theorem shp_ap {o : Oper} {t : TypeId} {s x : SV} (h : shpOf S.T o = some (.ap t s x)) : ∃ a b, o.op = .call { callee := .builtin .append, args := #[a, b], argTypes := #[t, t] } ∧ opv S.T a = some s ∧ opv S.T b = some x := by
 unfold shpOf at h
 split at h
 ·split at h <;> cases h
 ·obtain ⟨_, _, h2⟩ := map_some' h; cases h2
 ·split at h <;> cases h
 ·split at h <;> cases h
 ·rename_i c ho
  obtain ⟨callee, cargs, tys⟩ := c
  simp only at h
  split at h
  ·split at h
   ·split at h
    ·rename_i s' x' t' u' e1 e2
     split at h
     ·rename_i e3
      split at h
      ·rename_i a b h1 h2
       obtain ⟨rfl, rfl, rfl⟩ := Shp.ap.inj (Option.some.inj h)
       have e3' : t' = u' := by simpa using e3
       subst e3'
       have e1' : cargs = #[s', x'] := Array.ext' e1
       have e2' : tys = #[t', t'] := Array.ext' e2
       subst e1' e2'
       exact ⟨_, _, ho, h1, h2⟩
      ·cases h
     ·cases h
    ·cases h
   ·cases h
  ·cases h
 ·cases h
theorem Bq.moved {γ : Nat → Nat} {L : List (Option SB)} {W W1 : World} {i t : Nat} {cs : List SV} (h : Bq W0 F γ L R W) (hi : getB L i = some ⟨true, t, cs⟩) (hgr : W.grownBy W1 (some (γ i))) : Bq W0 F γ (L.set i none) R W1 := by
 have hd := h.drop i
 have hil := getB_lt hi
 have hat := h.at_ i _ hi
 have hg : ∀ (j : Nat) (b : SB), getB (L.set i none) j = some b → j ≠ i ∧ getB L j = some b := fun j b m => by
  have hji : j ≠ i := fun e => by subst e; rw [getB_set_self hil] at m; cases m
  exact ⟨hji, by rwa [getB_set_ne (Ne.symm hji)] at m⟩
 refine ⟨⟨hgr.os.trans h.hb.os, hgr.tape.trans h.hb.tape, hgr.output.trans h.hb.output, Nat.le_trans h.hb.size hgr.size, fun k hk hF => (hgr.block k (Nat.lt_of_lt_of_le hk h.hb.size) (fun e => ?_)).trans (h.hb.block k hk hF)⟩, fun j b m => ?_, hd.nd, hd.ok, fun r m => r.keep _ _ (h.rep r m) hgr.size (fun k hk hlt => hgr.block k hlt (fun e => ?_)), hd.sep, h.fr⟩
 ·have e := Option.some.inj e
  subst e
  rcases hat.2 rfl with q | q
  ·omega
  ·exact hF q
 ·obtain ⟨hji, hm⟩ := hg j b m
  exact ⟨wq_blk (h.at_ j b hm).1 hgr (h.ne hm hi rfl hji), (h.at_ j b hm).2⟩
 ·have e := Option.some.inj e
  subst e
  exact h.sep r m i _ hi rfl hk
def NewsAt (γ : Nat → Nat) (m : Nat) (x : SV) (news : List Value) (W : World) : Prop := ∃ A c, x.den γ = .slice A m c ∧ (m = 0 ∨ ∃ ad, A = some ad ∧ ∀ j u, news[j]? = some u → W.cell? (ad.add j) = some u)
theorem rf_apO (hE : E.ok P) (cl' : Bool) {t e size by_ i n c mm : Nat} {x : SV} {xs sp news : List Value} (h : shp S m = some (.ap t (.sl i n c) x)) (hok : okS cl' m = true) (hel : E.el.lookup t = some (e, size, by_)) (hb : getB S.L i = some ⟨true, e, (xs ++ sp).map .v⟩)
    (hxs : xs.length = n * size) (hall : (xs ++ sp).length = c * size) (hnc : n ≤ c) (hc : c ≤ maxLen) (hnews : news.length = mm * size) (hone : news.all (fun u => u.oneCell') = true) (hmm : n + mm ≤ 1000000) (hby : by_ ≤ 1000000)
    (hx : ∀ γ W, Known kn γ → Bq W0 F γ S.L R W → NewsAt γ mm x news W) (hld : cl' = true → i ∉ ldOf m)
    (hG : ∀ c' sp', (xs ++ news ++ sp').length = c' * size → n + mm ≤ c' → c' ≤ maxLen → Go P Q W0 F kn R ⟨S.L.set i none ++ [some ⟨true, e, (xs ++ news ++ sp').map .v⟩], putT S.T (dstV S m) (.sl S.L.length (n + mm) c')⟩ (setCl cl' (afterV m))) : Go P Q W0 F kn R S m := by
  obtain ⟨o, q1, q2, q3⟩ := shp_op h
  obtain ⟨a, b, ho, ha, hbx⟩ := shp_ap q2
  refine rf_eff cl' q1 hok (fun γ W hk hkl hB hT => ?_)
  obtain ⟨hu, ti, z, hi, hz, hs1, hs2, hs3, hs4, hs5⟩ := hE.el _ _ _ _ hel
  have hat := hB.at_ i _ hb
  have hil := getB_lt hb
  have emap : ∀ l : List Value, (l.map SV.v).map (SV.den γ) = l := fun l => by rw [List.map_map]; exact (List.map_congr_left (fun a _ => rfl)).trans (List.map_id _)
  have hat1 : W.heap[γ i]? = some (.cells (xs ++ sp).toArray e (0, 0)) := by have := hat.1; rw [emap] at this; exact this
  have hown : W.ownsRow 0 e size (.slice (some ⟨γ i, 0, none⟩) n c) n xs := ⟨hxs, .inr ⟨γ i, c, _, rfl, Nat.zero_le _, hat1, hnc, hc, by simpa using hall, by rw [← hxs]; simp⟩⟩
  obtain ⟨A, c2, hxe, hnw⟩ := hx γ W hk hB
  have key : ∃ v' w', (Builtin.append_ #[t, t] o.type #[.slice (some ⟨γ i, 0, none⟩) n c, .slice A mm c2]).run P W = .ok v' w' ∧ w'.ownsRow 0 e size v' (n + mm) (xs ++ news) ∧ W.grownBy w' (some (γ i)) ∧ v' ≠ .slice none 0 0 ∧ (v'.ownBlock = some (γ i) ∨ v'.ownBlock = some W.heap.size) := by
    by_cases hA : ∃ ad, A = some ad
    · obtain ⟨ad, rfl⟩ := hA
      have hnw' : ∀ j u, news[j]? = some u → W.cell? (ad.add j) = some u := by
        rcases hnw with h0 | ⟨ad', e1, h2⟩
        · subst h0
          have hn : news = [] := List.eq_nil_of_length_eq_zero (by simpa using hnews)
          subst hn
          simp
        · obtain rfl := Option.some.inj e1; exact h2
      obtain ⟨v', w', r1, r2, r3, r4, r5⟩ := run_append_own_at (P := P) W 0 t o.type e ti z size by_ hu hi hz hs1 hs2 hs3 hs4 _ n xs hown ad mm c2 news hnews hnw' (by simpa [List.all_eq_true] using hone) (by simp only [maxLen]; omega) (by
        have : (n + mm) * by_ ≤ 1000000 * 1000000 := Nat.mul_le_mul hmm hby
        omega) (Nat.zero_le _)
      exact ⟨v', w', r1, r2, r3, fun e => by have := r4.mp e; simp at this, r5⟩
    · have hA0 : A = none := by cases A with
        | none => rfl
        | some ad => exact absurd ⟨ad, rfl⟩ hA
      subst hA0
      have h0 : mm = 0 := by
        rcases hnw with h0 | ⟨ad', e1, _⟩
        · exact h0
        · cases e1
      subst h0
      have hn : news = [] := List.eq_nil_of_length_eq_zero (by simpa using hnews)
      subst hn
      refine ⟨.slice (some ⟨γ i, 0, none⟩) n c, W, ?_, by simpa using hown, ⟨rfl, rfl, rfl, Nat.le_refl _, fun _ _ _ => rfl⟩, by simp, Or.inl rfl⟩
      simp [Builtin.append_, run_underlying hu, sizeOf, typeInfo, hi, Builtin.lenOf, Builtin.firstCells, hnc, storeCells]
  obtain ⟨v', w', r1, r2, r3, r4, r5⟩ := key
  rcases r2.2 with ⟨e0, _⟩ | ⟨g, cap, cur, rfl, _, hg, hcap1, hcap2, hcs, htake⟩
  · exact absurd e0 r4
  have hgl : g = γ i ∨ g = W.heap.size := by
    rcases r5 with r5 | r5
    · exact .inl (Option.some.inj r5)
    · exact .inr (Option.some.inj r5)
  have hlen : (xs ++ news).length = (n + mm) * size := r2.1
  have hcur : cur = (xs ++ news ++ cur.toList.drop ((n + mm) * size)).toArray := by
    apply Array.ext'
    rw [← htake]
    exact (List.take_append_drop _ _).symm
  have hB1 : Bq W0 F γ (S.L.set i none) R w' := hB.moved hb r3
  have hL : (S.L.set i none).length = S.L.length := List.length_set
  have hB2 := hB1.add (g := g) (t := e) (cs := (xs ++ news ++ cur.toList.drop ((n + mm) * size)).map .v) (fun s hs => by obtain ⟨y, _, rfl⟩ := List.mem_map.mp hs; trivial) (by rw [emap, ← hcur]; exact hg)
    (by rcases hgl with rfl | rfl
        · exact hat.2 rfl
        · exact .inl hB.hb.size)
    (fun j bb hj => by
      have hji : j ≠ i := fun e => by subst e; rw [getB_set_self hil] at hj; cases hj
      rw [getB_set_ne (Ne.symm hji)] at hj
      rcases hgl with rfl | rfl
      · exact hB.ne hj hb rfl hji
      · have := blk_lt (hB.at_ j bb hj).1; omega)
    (fun r hr hk => by
      rcases hgl with rfl | rfl
      · exact hB.sep r hr i _ hb rfl hk
      · have := r.lt _ _ (hB.rep r hr) hk; omega)
  rw [hL] at hB2
  refine ⟨_, w', upd γ S.L.length g, _, ?_, Or.inr ⟨.slice (some ⟨g, 0, none⟩) (n + mm) cap, rfl⟩, fun j hj => upd_ne hj, by simp, ?_, hB2, fun K hK => ?_, fun j hj hjl => ?_, hG cap (cur.toList.drop ((n + mm) * size)) ?_ hcap1 hcap2⟩
  · unfold execOp
    have ea : (S.act γ).eval a = .slice (some ⟨γ i, 0, none⟩) n c := opv_eval ha
    have eb : (S.act γ).eval b = .slice A mm c2 := (opv_eval hbx).trans hxe
    simp only [ho, resolve, invoke, builtin, Sem.run_bind, Sem.run_pure, Result.andThen_ok, List.map_toArray, List.map_cons, List.map_nil, ea, eb, r1]
  · have h1 : (⟨S.L.set i none ++ [some ⟨true, e, (xs ++ news ++ cur.toList.drop ((n + mm) * size)).map .v⟩], S.T⟩ : St).okT := fun s hs => SV.ok_mono (by simp) (hT s hs)
    exact okT_put h1 (s := .sl S.L.length (n + mm) cap) (show S.L.length < (S.L.set i none ++ [_]).length by simp)
  · show K ((S.act γ).put o.dst _) w'
    have e1 := act_put (upd γ S.L.length g) ⟨S.L.set i none ++ [some ⟨true, e, (xs ++ news ++ cur.toList.drop ((n + mm) * size)).map .v⟩], S.T⟩ o.dst (.sl S.L.length (n + mm) cap)
    have e2 : (⟨S.L.set i none ++ [some ⟨true, e, (xs ++ news ++ cur.toList.drop ((n + mm) * size)).map .v⟩], S.T⟩ : St).act (upd γ S.L.length g) = S.act γ := act_upd γ S g hT
    rw [e2] at e1
    have e3 : (SV.sl S.L.length (n + mm) cap).den (upd γ S.L.length g) = .slice (some ⟨g, 0, none⟩) (n + mm) cap := by show Value.slice (some ⟨upd γ S.L.length g S.L.length, 0, none⟩) _ _ = _; rw [upd_eq]
    rw [e3] at e1
    rw [← e1]
    rw [q3] at hK
    exact hK
  · cases cl' with
    | false => cases hj
    | true =>
      have hji : i ≠ j := fun e => hld rfl (by subst e; exact hj)
      rw [getB_app (by simpa using hjl), getB_set_ne hji]
  · rw [← hcs, ← Array.length_toList]
    have := congrArg (fun a => a.toList.length) hcur
    simpa using this.symm
end
end Go.Proofs.Ytbhakljebcmocaa.PBoundKeeps
end
