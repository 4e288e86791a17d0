-- Written by a program of this session: a variant of the print that takes proofs by hand (wip/tools/mkprint.py)
import Derived.Test.YtcleoahoppggmaaPLinAlonex0
import Derived.Test.YtcleoahoppggmaaPLinAlonex2
namespace Go.Proofs.Ytcleoahoppggmaa.PLinAlone
open Go.RowKit Go.Proofs.YtcleoahoppggmaaW.PrintWords Go.Proofs.YtcleoahoppggmaaW.PrintLast Go.Proofs.YtcleoahoppggmaaW.PrintMore
attribute [local go_sem] max2_int min2_int max_two min_two max_three min_three max_four min_four   -- for this text's walks alone
set_option linter.unusedVariables false
set_option linter.unusedSimpArgs false

/-! ### corrieref14_Told: function 10 (by hand) -/
theorem kix_key {l : List S53} {k : Int} (hs : Rising l) (a : Nat) (h : a < l.length) (e : l[a].f0 = k) : kix l k = a ∧ kthere l k = true := by
  have h1 : kix l k = a := kix_of l k a (Nat.le_of_lt h) (fun p hp => by have := rising_lt hs p a hp h; omega) (fun _ => Int.le_of_eq e.symm)
  refine ⟨h1, ?_⟩
  unfold kthere
  refine decide_eq_true ⟨by omega, ?_⟩
  rw [h1, li_rd _ _ h]
  exact e
def AT (l : List S53) (k : Int) (i : Nat) (t : Int) : Prop := (t = -1 ∧ ∀ (p : Nat) (h : p < l.length), p < i → l[p].f0 ≠ k) ∨ (∃ a : Nat, t = (a : Int) ∧ ∃ h : a < l.length, l[a].f0 = k)
theorem AT.zero (l : List S53) (k : Int) : AT l k 0 (-1) := .inl ⟨rfl, fun p h hp => by omega⟩
theorem AT.yes {l : List S53} {k : Int} {i : Nat} (h : i < l.length) (e : l[i].f0 = k) : AT l k (i + 1) i := .inr ⟨i, rfl, h, e⟩
theorem AT.no {l : List S53} {k t : Int} {i : Nat} (hi : i < l.length) (e : ¬ l[i].f0 = k) (h : AT l k i t) : AT l k (i + 1) t := by
  rcases h with ⟨h1, h2⟩ | h
  · refine .inl ⟨h1, fun p hp hpi => ?_⟩
    rcases Nat.lt_or_ge p i with h3 | h3
    · exact h2 p hp h3
    · have : p = i := by omega
      subst this
      exact e
  · exact .inr h
theorem AT.there {l : List S53} {k t : Int} (hs : Rising l) (hk : kthere l k = true) (h : AT l k l.length t) : t = (kix l k : Int) := by
  rcases h with ⟨h1, h2⟩ | ⟨a, h1, h2, h3⟩
  · exact absurd (by rw [← li_rd _ _ (kthere_lt hk)]; exact kthere_eq hk) (h2 _ (kthere_lt hk) (kthere_lt hk))
  · rw [(kix_key hs a h2 h3).1]
    exact h1
theorem AT.none {l : List S53} {k t : Int} (hs : Rising l) (hk : kthere l k = false) (h : AT l k l.length t) : t = -1 := by
  rcases h with ⟨h1, h2⟩ | ⟨a, h1, h2, h3⟩
  · exact h1
  · rw [(kix_key hs a h2 h3).2] at hk
    cases hk
section
variable {ops : Array Oper} {rest : List Oper} {o : Oper} {a : Act} {Q : Exit → Act → World → Prop}
/-- append of pairs to a row that is owned -/
theorem li_ev1 (hgd : o.guard = none) (s x : Operand) (ho : o.op = .call { callee := .builtin .append, args := #[s, x], argTypes := #[22, 22] }) {w : World} {N : Nat} {v : Value} {xs ys : List S53} {ad : Addr} {m c : Nat}
    (hs : a.eval s = v) (hx : a.eval x = .slice (some ad) m c) (hown : OW w N v xs) (hN : N ≤ w.heap.size) (hm : ys.length = m) (hcell : ∀ j u, (encs ys)[j]? = some u → w.cell? (ad.add j) = some u) (hl1 : xs.length ≤ 2000000) (hl2 : ys.length ≤ 2000000)
    (h : ∀ v' w', OW w' N v' (xs ++ ys) → Below N w w' → wpList Try.prog ops Q rest (a.put o.dst v') w') : wpList Try.prog ops Q (o :: rest) a w := by
  obtain ⟨i0, hp0, hp1, hp2, hp3⟩ := li_pinfo
  subst hm
  refine wpList_append_own w hgd s x 22 ho N 53 i0 (.agg #[(.int .u64 0), (.int .u64 0)]) 2 16 Try.underlying22 hp0 hp1 hp2 hp3 rfl (by decide) v xs.length (encs xs) hs hown ad ys.length c (encs ys) hx (encs_len ys) hcell (encs_one ys) (by unfold maxLen; omega) (by omega) hN ?_
  intro v' w' h1 h2 _
  refine h v' w' ?_ ((Below.refl N w).grown h2 hN (fun k hk => (World.ownsRow.lt hown k hk).1))
  unfold OW
  rw [List.length_append, encs_app]
  exact h1
/-- append of pairs to a row that is new and empty -/
theorem li_ev0 (hgd : o.guard = none) (s x : Operand) (ho : o.op = .call { callee := .builtin .append, args := #[s, x], argTypes := #[22, 22] }) {w : World} {ys : List S53} {ad : Addr} {m c : Nat}
    (hs : a.eval s = .slice (some ⟨w.heap.size, 0, none⟩) 0 0) (hx : a.eval x = .slice (some ad) m c) (hm : ys.length = m) (hcell : ∀ j u, (encs ys)[j]? = some u → w.cell? (ad.add j) = some u) (hl2 : ys.length ≤ 2000000)
    (h : ∀ v' w', OW w' w.heap.size v' ys → Below w.heap.size w w' → wpList Try.prog ops Q rest (a.put o.dst v') w') : wpList Try.prog ops Q (o :: rest) a (w.alloc (.cells #[] 53)) := by
  have hb0 : Below w.heap.size w (w.alloc (.cells #[] 53)) := below_alloc (Below.refl _ _) _
  refine li_ev1 (N := w.heap.size) (xs := []) hgd s x ho hs hx (World.ownsRow_made w #[] 0 (Nat.le_refl _) (Nat.zero_le _) rfl) hb0.size hm (fun j u hj => ?_) (by simp) hl2 (fun v' w' h1 h2 => h v' w' h1 (hb0.trans h2))
  have hx := hcell j u hj
  exact (hb0.cell (World.block_lt_of_cell? w _ hx)).trans hx
end
/-- the cells that a row reads -/
theorem C_cells {W : World} {ad : Addr} {l : List S53} (h : Kd.C k53 W (some ad) l.length l) : ∀ j u, (encs l)[j]? = some u → W.cell? (ad.add j) = some u := by
  obtain ⟨inner, hrep, hcell⟩ := ReadsRow.inner_ (show ReadsRow (k53.K W) 2 W (some ad) l.length l from h)
  rw [encs_of_reps hrep] at hcell
  exact hcell
theorem cells_take {w : World} {ad : Addr} {l : List S53} (h : ∀ j u, (encs l)[j]? = some u → w.cell? (ad.add j) = some u) (n : Nat) : ∀ j u, (encs (l.take n))[j]? = some u → w.cell? (ad.add j) = some u := by
  intro j u hj
  rw [← encs_take, List.getElem?_take] at hj
  by_cases c : j < n * 2
  · rw [if_pos c] at hj
    exact h j u hj
  · rw [if_neg c] at hj
    cases hj
theorem cells_drop {w : World} {ad : Addr} {l : List S53} (h : ∀ j u, (encs l)[j]? = some u → w.cell? (ad.add j) = some u) (n : Nat) : ∀ j u, (encs (l.drop n))[j]? = some u → w.cell? ((ad.add (n * 2)).add j) = some u := by
  intro j u hj
  rw [← encs_drop, List.getElem?_drop] at hj
  rw [Addr.add_add]
  exact h _ u hj
/-- append of a nil slice leaves the row -/
theorem li_evn {ops : Array Oper} {rest : List Oper} {o : Oper} {a : Act} {Q : Exit → Act → World → Prop} (hgd : o.guard = none) (s x : Operand) (ho : o.op = .call { callee := .builtin .append, args := #[s, x], argTypes := #[22, 22] }) {w : World} {A : Option Addr} {n cap c : Nat}
    (hs : a.eval s = .slice A n cap) (hx : a.eval x = .slice none 0 c) (hn : n ≤ cap) (h : wpList Try.prog ops Q rest (a.put o.dst (.slice A n cap)) w) : wpList Try.prog ops Q (o :: rest) a w := by
  obtain ⟨i0, hp0, hp1, hp2, hp3⟩ := li_pinfo
  refine wq_app hgd s x 22 22 ho hs hx (w' := w) (v' := .slice A n cap) ?_ h
  cases A <;> simp [Builtin.append_, Sem.run_bind, run_underlying Try.underlying22, sizeOf, typeInfo, hp0, Builtin.lenOf, Builtin.firstCells, hn, storeCells]

/-- append of a nil slice to a row that is new and empty -/
theorem li_ev0n {ops : Array Oper} {rest : List Oper} {o : Oper} {a : Act} {Q : Exit → Act → World → Prop} (hgd : o.guard = none) (s x : Operand) (ho : o.op = .call { callee := .builtin .append, args := #[s, x], argTypes := #[22, 22] }) {w : World} {c : Nat}
    (hs : a.eval s = .slice (some ⟨w.heap.size, 0, none⟩) 0 0) (hx : a.eval x = .slice none 0 c)
    (h : ∀ v' w', OW w' w.heap.size v' [] → Below w.heap.size w w' → wpList Try.prog ops Q rest (a.put o.dst v') w') : wpList Try.prog ops Q (o :: rest) a (w.alloc (.cells #[] 53)) :=
  li_evn hgd s x ho hs hx (Nat.le_refl _) (h _ _ (World.ownsRow_made w #[] 0 (Nat.le_refl _) (Nat.zero_le _) rfl) (below_alloc (Below.refl _ _) _))
theorem li_ev1n {ops : Array Oper} {rest : List Oper} {o : Oper} {a : Act} {Q : Exit → Act → World → Prop} (hgd : o.guard = none) (s x : Operand) (ho : o.op = .call { callee := .builtin .append, args := #[s, x], argTypes := #[22, 22] }) {w : World} {N c : Nat} {v : Value} {xs : List S53}
    (hs : a.eval s = v) (hx : a.eval x = .slice none 0 c) (hown : OW w N v xs) (h : wpList Try.prog ops Q rest (a.put o.dst v) w) : wpList Try.prog ops Q (o :: rest) a w := by
  obtain ⟨A, cc, rfl, h1, _⟩ := OW.C hown
  exact li_evn hgd s x ho hs hx h1 h
theorem C_none_nil {W : World} {l : List S53} (h : Kd.C k53 W none l.length l) : l = [] := by
  cases l with
  | nil => rfl
  | cons p r =>
    obtain ⟨ad, e, _⟩ := (show ReadsRow (k53.K W) 2 W none (p :: r).length (p :: r) from h).2.2 (by simp)
    cases e

theorem OW.C3 {w : World} {base : Nat} {v : Value} {l : List S53} (h : OW w base v l) : ∃ A c, v = .slice A l.length c ∧ l.length ≤ c ∧ Kd.C k53 w A l.length l ∧ ∀ ad, A = some ad → base ≤ ad.block := by
  obtain ⟨A, c, e, h1, h2⟩ := h.C
  refine ⟨A, c, e, h1, h2, fun ad ha => ?_⟩
  have := (World.ownsRow.lt h ad.block (by rw [e, ha]; rfl)).1
  exact this

def li_tb_get_lb (n m : Nat) : Array Bool := ((List.range n).map (fun i => m.testBit i)).toArray
def li_tb_get.T5 : Bool × List (List Nat × List Nat) := (true, [([], []), ([], []), ([0, 1], [0, 1]), ([2], [2]), ([3], [3]), ([], []), ([5], [5]), ([4, 6], [4, 6])])
def li_tb_get.B5 : List Nat := [0, 0, 3, 7, 15, 0, 32, 127]
theorem li_tb_get.tab5 : rtab .any (opsOf Try.f10 5) = li_tb_get.T5 := by kernel_rfl
theorem li_tb_get.bits5 : waitsOk li_tb_get.T5.2 li_tb_get.B5 = true := by kernel_rfl
def li_tb_get.T20 : Bool × List (List Nat × List Nat) := (true, [([], []), ([], []), ([], []), ([1, 2], [1, 2]), ([3], [3]), ([4], [4]), ([5], [5]), ([0, 0], [0]), ([6, 7, 0, 1, 2, 3, 4, 5, 6, 7], [6])])
def li_tb_get.B20 : List Nat := [0, 0, 0, 6, 14, 30, 62, 1, 255]
theorem li_tb_get.tab20 : rtab .any (opsOf Try.f10 20) = li_tb_get.T20 := by kernel_rfl
theorem li_tb_get.bits20 : waitsOk li_tb_get.T20.2 li_tb_get.B20 = true := by kernel_rfl
set_option maxHeartbeats 8000000 in
set_option maxRecDepth 100000 in
theorem li_tb_get (A0 : Option Addr) (c0 : Nat) (l : List S53) (kd k v q : Int) (hl : l.length ≤ 1000000) (hs : Rising l) (W : World) (hr0 : Kd.C k53 W A0 l.length l) (hc0 : l.length ≤ c0) (i : Nat) (hi : kix l k = i) (hil : i ≤ l.length) (hk3 : kd = 3) (hth : kthere l k = true) (hlt : i < l.length) :
    Calls Try.prog 10 #[.slice A0 l.length c0, .agg #[.int .i64 kd, .int .u64 k, .int .u64 v, .int .i64 q]] W fun e w' => ∃ A c, e = .returned (.tuple #[.slice A l.length c, .agg #[.int .i64 0, .bool true, .int .u64 (rd_T53 l (i : Int)).f1, .slice none 0 0]]) ∧ l.length ≤ c ∧ Kd.C k53 w' A l.length l ∧ Below W.heap.size W w' ∧ ((A = A0 ∧ l = l) ∨ ∀ ad, A = some ad → W.heap.size ≤ ad.block) := by
  have HR0 := Aside0.mk hr0
  have HC0 := Aside0.mk hc0
  have HL := Aside0.mk hl
  have HSR := Aside0.mk hs
  have HI := Aside0.mk hi
  have HIL := Aside0.mk hil
  have HTH := Aside0.mk hth
  have HB := Aside0.mk (Below.refl W.heap.size W)
  subst hk3
  have HLT := Aside0.mk hlt
  clear hr0 hc0 hl hs hi hil hth hlt
  go_enter Try.func10, Try.ntmps10
  go_wp2_with (first | ((with_reducible refine gate_dst (N := 3) rfl ?_); refine box_event ?hg1 (N := 3) ?hd1 (cs := #[.int .i64 3, .int .u64 k, .int .u64 v, .int .i64 q]) (t := 25) ?hr1 ?_; (case hd1 => rfl); (case hg1 => rfl); (case hr1 => first | (go_simp; done) | (go_simp; rfl)); intro g1 hg w1_ hbox hbk; have HGB1 := Aside0.mk (show W.heap.size ≤ g1 from by rw [hg]; have := HB.out.size; omega); have n_HB := Aside0.mk (below_step HB.out hbk); clear HB; have HB := n_HB; clear n_HB; have B1 := Aside0.mk hbox; clear hbk hbox hg) | ((with_reducible refine gate_dst (N := 5) rfl ?_); refine box_event ?hg2 (N := 5) ?hd2 (cs := #[.int .i64 0, .bool false, .int .u64 0, .slice none 0 0]) (t := 30) ?hr2 ?_; (case hd2 => rfl); (case hg2 => rfl); (case hr2 => first | (go_simp; done) | (go_simp; rfl)); intro g2 hg w2_ hbox hbk; have HGB2 := Aside0.mk (show g1 ≠ g2 ∧ W.heap.size ≤ g2 from by rw [hg]; have := blk_lt B1.out; have := HB.out.size; omega); have n_HB := Aside0.mk (below_step HB.out hbk); have n_B1 := Aside0.mk (blk_below B1.out hbk); clear HB B1; have HB := n_HB; have B1 := n_B1; clear n_HB n_B1; have B2 := Aside0.mk hbox; clear hbk hbox hg))
  go_loopg [6, 7] l.length (fun kq v6 v7 wr => ∃ (j : Nat) (t : Int), v7 = .int .i64 j ∧ v6 = .int .i64 t ∧ Aside0 (j ≤ l.length) ∧ Aside0 (l.length - j ≤ kq) ∧ Aside0 (AT l k j t) ∧ Aside0 (wr.heap[g1]? = some (.cells #[.int .i64 3, .int .u64 k, .int .u64 v, .int .i64 q] 25 (0, 0))) ∧ Aside0 (wr.heap[g2]? = some (.cells #[.int .i64 0, .bool false, .int .u64 0, .slice none 0 0] 30 (0, 0))) ∧ Aside0 (Below W.heap.size W wr))
  case atStart => exact ⟨0, -1, rfl, rfl, ⟨Nat.zero_le _⟩, ⟨by omega⟩, ⟨AT.zero l k⟩, B1, B2, HB⟩
  case round =>
    clear HB B1 B2
    obtain ⟨j, t, rfl, rfl, HJ, HK, HAT, B1, B2, HB⟩ := hrel
    by_cases hjl : j < l.length
    · have hlt : (j : Int) < (l.length : Int) := by omega
      have HJL := Aside0.mk hjl
      have hj0 : (0 : Int) ≤ (j : Int) := by omega
      have hjb : (j : Int) ≤ 1000000 := by have := HL.out; omega
      obtain ⟨ad, eA, hW0, hW1⟩ := at_T53 HR0.out (j : Int) (by omega) (by omega)
      cases eA
      simp only [Int.toNat_natCast] at hW0 hW1
      clear hjl
      by_cases hc : (rd_T53 l (j : Int)).f0 = k
      · have hcb : ((rd_T53 l (j : Int)).f0 == k) = true := beq_iff_eq.mpr hc
        have HC := Aside0.mk hc
        clear hc
        go_upto_region 5 with fail
        obtain ⟨XB1, hXB1, hb_B1⟩ := wq_name B1.out
        clear B1
        have B1 := Aside0.mk hb_B1
        have HXB1 := Aside0.mk hXB1
        clear hXB1 hb_B1
        have n_HB := Aside0.mk (below_drew1 HB.out)
        have n_B1 := Aside0.mk (blk_drew B1.out)
        have n_B2 := Aside0.mk (blk_drew B2.out)
        clear HB B1 B2
        have HB := n_HB
        have B1 := n_B1
        have B2 := n_B2
        clear n_HB n_B1 n_B2
        refine start_ (n := 8) (S := fun w' => w'.heap[g1]? = some (.cells XB1 25 (0, 0)) ∧ w'.cell? (ad.add (j * 2)) = some (.int .u64 (rd_T53 l (j : Int)).f0)) (ds := []) #[false, false, false, false, false, false, false, false] (by kernel_rfl) rfl rfl ⟨B1.out, (pw_cell_below HB.out hW0)⟩ (fun hHeld => ?_); refine with_tabW li_tb_get.tab5 li_tb_get.bits5 (fun HT_ HW_ => ?_)
        generalize wr.drew = pv1_ at HB B1 B2 hHeld ⊢
        refine pure_ (i := 0) (N := some 17) (v := ?_) (a' := ?_) (li_tb_get_lb 8 1) rfl rfl (any_of HT_.out (by kernel_rfl)) (fun _ _ _ h => h) (Or.inl ⟨by rfl, ?_⟩) ?_ ?_; rotate_left
        · intro w'; go_simp; with_reducible rfl
        rotate_left
        · simp only [Act.put, List.setIfInBounds_toArray, List.set_cons_zero, List.set_cons_succ, i64_w, i32_w]; rfl
        refine pure_ (i := 1) (N := some 18) (v := ?_) (a' := ?_) (li_tb_get_lb 8 3) rfl rfl (any_of HT_.out (by kernel_rfl)) (fun _ _ _ h => h) (Or.inl ⟨by rfl, ?_⟩) ?_ ?_; rotate_left
        · intro w'; go_simp; with_reducible rfl
        rotate_left
        · simp only [Act.put, List.setIfInBounds_toArray, List.set_cons_zero, List.set_cons_succ, i64_w, i32_w]; rfl
        refine pure_ (i := 2) (N := some 19) (v := ?_) (a' := ?_) (li_tb_get_lb 8 7) rfl rfl (any_of HT_.out (by kernel_rfl)) (fun _ _ _ h => h) (Or.inl ⟨by rfl, ?_⟩) ?_ ?_; rotate_left
        · intro w'; go_simp; with_reducible rfl
        rotate_left
        · simp only [Act.put, List.setIfInBounds_toArray, List.set_cons_zero, List.set_cons_succ, i64_w, i32_w]; rfl
        refine pure_ (i := 3) (N := some 20) (v := ?_) (a' := ?_) (li_tb_get_lb 8 15) rfl rfl (any_of HT_.out (by kernel_rfl)) (fun _ _ _ h => h) (Or.inl ⟨by rfl, ?_⟩) ?_ ?_; rotate_left
        · intro w'; go_simp; with_reducible rfl
        rotate_left
        · simp only [Act.put, List.setIfInBounds_toArray, List.set_cons_zero, List.set_cons_succ, i64_w, i32_w]; rfl
        refine pure_ (i := 5) (N := some 22) (v := ?_) (a' := ?_) (li_tb_get_lb 8 47) rfl rfl (any_of HT_.out (by kernel_rfl)) (fun _ _ _ h => h) (Or.inl ⟨by rfl, ?_⟩) ?_ ?_; rotate_left
        · intro w'; go_simp; with_reducible rfl
        rotate_left
        · simp only [Act.put, List.setIfInBounds_toArray, List.set_cons_zero, List.set_cons_succ, i64_w, i32_w]; rfl
        refine take_ (i := 4) (N := some 21) (v := ?_) (a' := ?_) (li_tb_get_lb 8 63) rfl rfl (take_ofW HT_.out HW_.out (by kernel_rfl)) (fun _ _ _ h => h) (Or.inl ⟨by rfl, ?_⟩) hHeld ?_ ?_; rotate_left
        · rintro w' ⟨s0, s1⟩; go_simp; with_reducible rfl
        rotate_left
        · simp only [Act.put, List.setIfInBounds_toArray, List.set_cons_zero, List.set_cons_succ, i64_w, i32_w]; rfl
        refine take_ (i := 6) (N := some 23) (v := ?_) (a' := ?_) (li_tb_get_lb 8 127) rfl rfl (take_ofW HT_.out HW_.out (by kernel_rfl)) (fun _ _ _ h => h) (Or.inl ⟨by rfl, ?_⟩) hHeld ?_ ?_; rotate_left
        · rintro w' ⟨s0, s1⟩; refine Eq.trans (wq_run_load1 (ty := 23) (p := .tmp 22) (g := g1) (i := 1) (v := ?v3) ?ho3 ?hp3 Try.underlying23 ?hd3 s0 ?hv3) ?fin3; (case hd3 => rfl); (case ho3 => rfl); (case hp3 => rfl); (case hv3 => rewrite [HXB1.out]; rfl); (case fin3 => with_reducible rfl)
        rotate_left
        · simp only [Act.put, List.setIfInBounds_toArray, List.set_cons_zero, List.set_cons_succ, i64_w, i32_w]; rfl
        refine pure_ (i := 7) (N := some 24) (v := ?_) (a' := ?_) (li_tb_get_lb 8 255) rfl rfl (any_of HT_.out (by kernel_rfl)) (fun _ _ _ h => h) (Or.inl ⟨by rfl, ?_⟩) ?_ ?_; rotate_left
        · intro w'; go_simp; with_reducible rfl
        rotate_left
        · simp only [Act.put, List.setIfInBounds_toArray, List.set_cons_zero, List.set_cons_succ, i64_w, i32_w]; rfl
        refine done_ (done_of HT_.out (by kernel_rfl)) ?_
        have hX := HXB1.out
        subst hX
        clear HXB1
        go_wp2
        go_roundg (l.length - (j + 1))
        case measure => have := HJL.out; have := HK.out; omega
        case rel =>
          have hjl := HJL.out
          have hcc := HC.out
          rw [li_rd l j hjl] at hcc
          have hll := HL.out
          exact ⟨j + 1, (j : Int), by first | rfl | (rw [show wrap64 ((j : Int) + 1) = ((j + 1 : Nat) : Int) from by unfold wrap64; omega]), rfl, ⟨hjl⟩, ⟨by omega⟩, ⟨AT.yes hjl hcc⟩, B1, B2, HB⟩
      · have hcb : ((rd_T53 l (j : Int)).f0 == k) = false := beq_eq_false_iff_ne.mpr hc
        have HC := Aside0.mk hc
        clear hc
        go_upto_region 5 with fail
        obtain ⟨XB1, hXB1, hb_B1⟩ := wq_name B1.out
        clear B1
        have B1 := Aside0.mk hb_B1
        have HXB1 := Aside0.mk hXB1
        clear hXB1 hb_B1
        have n_HB := Aside0.mk (below_drew1 HB.out)
        have n_B1 := Aside0.mk (blk_drew B1.out)
        have n_B2 := Aside0.mk (blk_drew B2.out)
        clear HB B1 B2
        have HB := n_HB
        have B1 := n_B1
        have B2 := n_B2
        clear n_HB n_B1 n_B2
        refine start_ (n := 8) (S := fun w' => w'.heap[g1]? = some (.cells XB1 25 (0, 0)) ∧ w'.cell? (ad.add (j * 2)) = some (.int .u64 (rd_T53 l (j : Int)).f0)) (ds := []) #[false, false, false, false, false, false, false, false] (by kernel_rfl) rfl rfl ⟨B1.out, (pw_cell_below HB.out hW0)⟩ (fun hHeld => ?_); refine with_tabW li_tb_get.tab5 li_tb_get.bits5 (fun HT_ HW_ => ?_)
        generalize wr.drew = qv1_ at HB B1 B2 hHeld ⊢
        refine pure_ (i := 0) (N := some 17) (v := ?_) (a' := ?_) (li_tb_get_lb 8 1) rfl rfl (any_of HT_.out (by kernel_rfl)) (fun _ _ _ h => h) (Or.inl ⟨by rfl, ?_⟩) ?_ ?_; rotate_left
        · intro w'; go_simp; with_reducible rfl
        rotate_left
        · simp only [Act.put, List.setIfInBounds_toArray, List.set_cons_zero, List.set_cons_succ, i64_w, i32_w]; rfl
        refine pure_ (i := 1) (N := some 18) (v := ?_) (a' := ?_) (li_tb_get_lb 8 3) rfl rfl (any_of HT_.out (by kernel_rfl)) (fun _ _ _ h => h) (Or.inl ⟨by rfl, ?_⟩) ?_ ?_; rotate_left
        · intro w'; go_simp; with_reducible rfl
        rotate_left
        · simp only [Act.put, List.setIfInBounds_toArray, List.set_cons_zero, List.set_cons_succ, i64_w, i32_w]; rfl
        refine pure_ (i := 2) (N := some 19) (v := ?_) (a' := ?_) (li_tb_get_lb 8 7) rfl rfl (any_of HT_.out (by kernel_rfl)) (fun _ _ _ h => h) (Or.inl ⟨by rfl, ?_⟩) ?_ ?_; rotate_left
        · intro w'; go_simp; with_reducible rfl
        rotate_left
        · simp only [Act.put, List.setIfInBounds_toArray, List.set_cons_zero, List.set_cons_succ, i64_w, i32_w]; rfl
        refine pure_ (i := 3) (N := some 20) (v := ?_) (a' := ?_) (li_tb_get_lb 8 15) rfl rfl (any_of HT_.out (by kernel_rfl)) (fun _ _ _ h => h) (Or.inl ⟨by rfl, ?_⟩) ?_ ?_; rotate_left
        · intro w'; go_simp; with_reducible rfl
        rotate_left
        · simp only [Act.put, List.setIfInBounds_toArray, List.set_cons_zero, List.set_cons_succ, i64_w, i32_w]; rfl
        refine pure_ (i := 5) (N := some 22) (v := ?_) (a' := ?_) (li_tb_get_lb 8 47) rfl rfl (any_of HT_.out (by kernel_rfl)) (fun _ _ _ h => h) (Or.inl ⟨by rfl, ?_⟩) ?_ ?_; rotate_left
        · intro w'; go_simp; with_reducible rfl
        rotate_left
        · simp only [Act.put, List.setIfInBounds_toArray, List.set_cons_zero, List.set_cons_succ, i64_w, i32_w]; rfl
        refine take_ (i := 4) (N := some 21) (v := ?_) (a' := ?_) (li_tb_get_lb 8 63) rfl rfl (take_ofW HT_.out HW_.out (by kernel_rfl)) (fun _ _ _ h => h) (Or.inl ⟨by rfl, ?_⟩) hHeld ?_ ?_; rotate_left
        · rintro w' ⟨s0, s1⟩; go_simp; with_reducible rfl
        rotate_left
        · simp only [Act.put, List.setIfInBounds_toArray, List.set_cons_zero, List.set_cons_succ, i64_w, i32_w]; rfl
        refine take_ (i := 6) (N := some 23) (v := ?_) (a' := ?_) (li_tb_get_lb 8 127) rfl rfl (take_ofW HT_.out HW_.out (by kernel_rfl)) (fun _ _ _ h => h) (Or.inl ⟨by rfl, ?_⟩) hHeld ?_ ?_; rotate_left
        · rintro w' ⟨s0, s1⟩; refine Eq.trans (wq_run_load1 (ty := 23) (p := .tmp 22) (g := g1) (i := 1) (v := ?v4) ?ho4 ?hp4 Try.underlying23 ?hd4 s0 ?hv4) ?fin4; (case hd4 => rfl); (case ho4 => rfl); (case hp4 => rfl); (case hv4 => rewrite [HXB1.out]; rfl); (case fin4 => with_reducible rfl)
        rotate_left
        · simp only [Act.put, List.setIfInBounds_toArray, List.set_cons_zero, List.set_cons_succ, i64_w, i32_w]; rfl
        refine pure_ (i := 7) (N := some 24) (v := ?_) (a' := ?_) (li_tb_get_lb 8 255) rfl rfl (any_of HT_.out (by kernel_rfl)) (fun _ _ _ h => h) (Or.inl ⟨by rfl, ?_⟩) ?_ ?_; rotate_left
        · intro w'; go_simp; with_reducible rfl
        rotate_left
        · simp only [Act.put, List.setIfInBounds_toArray, List.set_cons_zero, List.set_cons_succ, i64_w, i32_w]; rfl
        refine done_ (done_of HT_.out (by kernel_rfl)) ?_
        have hX := HXB1.out
        subst hX
        clear HXB1
        go_wp2
        go_roundg (l.length - (j + 1))
        case measure => have := HJL.out; have := HK.out; omega
        case rel =>
          have hjl := HJL.out
          have hcc := HC.out
          rw [li_rd l j hjl] at hcc
          have hll := HL.out
          exact ⟨j + 1, t, by first | rfl | (rw [show wrap64 ((j : Int) + 1) = ((j + 1 : Nat) : Int) from by unfold wrap64; omega]), rfl, ⟨hjl⟩, ⟨by omega⟩, ⟨AT.no hjl hcc HAT.out⟩, B1, B2, HB⟩
    · have hnlt : ¬ ((j : Int) < (l.length : Int)) := by omega
      have hjj : j = l.length := by have := HJ.out; omega
      subst hjj
      have ht : t = (i : Int) := by rw [AT.there HSR.out HTH.out HAT.out, HI.out]
      subst ht
      have hi0 : (0 : Int) ≤ (i : Int) := by omega
      have hib : (i : Int) ≤ 1000000 := by have := HL.out; have := HIL.out; omega
      have hil2 : (i : Int) ≤ (l.length : Int) := by have := HIL.out; omega
      obtain ⟨ad, eA, hW0, hW1⟩ := at_T53 HR0.out (i : Int) (by omega) (by have := HLT.out; omega)
      cases eA
      simp only [Int.toNat_natCast] at hW0 hW1
      have hil3 : (i : Int) < (l.length : Int) := by have := HLT.out; omega
      go_upto_region 20 with (first | ((with_reducible refine gate_dst (N := 27) rfl ?_); refine wq_load1 (ty := 3) (p := .tmp 26) (g := g1) (i := 0) (v := ?v5) ?hgd5 ?ho5 ?hp5 Try.underlying3 ?hd5 B1.out ?hv5 ?_; (case hd5 => rfl); (case hgd5 => rfl); (case ho5 => rfl); (case hp5 => rfl); (case hv5 => rfl)) | ((with_reducible refine gate_dst (N := 70) rfl ?_); refine wq_load1 (ty := 3) (p := .tmp 69) (g := g1) (i := 0) (v := ?v6) ?hgd6 ?ho6 ?hp6 Try.underlying3 ?hd6 B1.out ?hv6 ?_; (case hd6 => rfl); (case hgd6 => rfl); (case ho6 => rfl); (case hp6 => rfl); (case hv6 => rfl)) | ((with_reducible refine gate_dst (N := 90) rfl ?_); refine wq_load1 (ty := 3) (p := .tmp 89) (g := g1) (i := 0) (v := ?v7) ?hgd7 ?ho7 ?hp7 Try.underlying3 ?hd7 B1.out ?hv7 ?_; (case hd7 => rfl); (case hgd7 => rfl); (case ho7 => rfl); (case hp7 => rfl); (case hv7 => rfl)))
      have n_HB := Aside0.mk (below_drew1 HB.out)
      have n_B1 := Aside0.mk (blk_drew B1.out)
      have n_B2 := Aside0.mk (blk_drew B2.out)
      clear HB B1 B2
      have HB := n_HB
      have B1 := n_B1
      have B2 := n_B2
      clear n_HB n_B1 n_B2
      refine start_ (n := 9) (S := fun w' => w'.cell? ⟨(ad.add (i * 2)).block, (ad.add (i * 2)).off + 1, none⟩ = some (.int .u64 (rd_T53 l (i : Int)).f1)) (ds := [8]) #[false, false, false, false, false, false, false, false, false] (by kernel_rfl) rfl rfl ((pw_cell_below HB.out hW1)) (fun hHeld => ?_); refine with_tabW li_tb_get.tab20 li_tb_get.bits20 (fun HT_ HW_ => ?_)
      generalize wr.drew = zv1_ at HB B1 B2 hHeld ⊢
      refine pure_ (i := 0) (N := some 96) (v := ?_) (a' := ?_) (li_tb_get_lb 9 1) rfl rfl (any_of HT_.out (by kernel_rfl)) (fun _ _ _ h => h) (Or.inl ⟨by rfl, ?_⟩) ?_ ?_; rotate_left
      · intro w'; go_simp; with_reducible rfl
      rotate_left
      · simp only [Act.put, List.setIfInBounds_toArray, List.set_cons_zero, List.set_cons_succ, i64_w, i32_w]; rfl
      refine pure_ (i := 1) (N := some 97) (v := ?_) (a' := ?_) (li_tb_get_lb 9 3) rfl rfl (any_of HT_.out (by kernel_rfl)) (fun _ _ _ h => h) (Or.inl ⟨by rfl, ?_⟩) ?_ ?_; rotate_left
      · intro w'; go_simp; with_reducible rfl
      rotate_left
      · simp only [Act.put, List.setIfInBounds_toArray, List.set_cons_zero, List.set_cons_succ, i64_w, i32_w]; rfl
      refine pure_ (i := 2) (N := some 98) (v := ?_) (a' := ?_) (li_tb_get_lb 9 7) rfl rfl (any_of HT_.out (by kernel_rfl)) (fun _ _ _ h => h) (Or.inl ⟨by rfl, ?_⟩) ?_ ?_; rotate_left
      · intro w'; go_simp; with_reducible rfl
      rotate_left
      · simp only [Act.put, List.setIfInBounds_toArray, List.set_cons_zero, List.set_cons_succ, i64_w, i32_w]; rfl
      refine pure_ (i := 3) (N := some 99) (v := ?_) (a' := ?_) (li_tb_get_lb 9 15) rfl rfl (any_of HT_.out (by kernel_rfl)) (fun _ _ _ h => h) (Or.inl ⟨by rfl, ?_⟩) ?_ ?_; rotate_left
      · intro w'; go_simp; with_reducible rfl
      rotate_left
      · simp only [Act.put, List.setIfInBounds_toArray, List.set_cons_zero, List.set_cons_succ, i64_w, i32_w]; rfl
      refine pure_ (i := 4) (N := some 100) (v := ?_) (a' := ?_) (li_tb_get_lb 9 31) rfl rfl (any_of HT_.out (by kernel_rfl)) (fun _ _ _ h => h) (Or.inl ⟨by rfl, ?_⟩) ?_ ?_; rotate_left
      · intro w'; go_simp; with_reducible rfl
      rotate_left
      · simp only [Act.put, List.setIfInBounds_toArray, List.set_cons_zero, List.set_cons_succ, i64_w, i32_w]; rfl
      refine pure_ (i := 7) (N := some 4) (v := ?_) (a' := ?_) (li_tb_get_lb 9 159) rfl rfl (any_of HT_.out (by kernel_rfl)) (fun _ _ _ h => h) (Or.inl ⟨by rfl, ?_⟩) ?_ ?_; rotate_left
      · intro w'; go_simp; with_reducible rfl
      rotate_left
      · simp only [Act.put, List.setIfInBounds_toArray, List.set_cons_zero, List.set_cons_succ, i64_w, i32_w]; rfl
      refine take_ (i := 5) (N := some 101) (v := ?_) (a' := ?_) (li_tb_get_lb 9 191) rfl rfl (take_ofW HT_.out HW_.out (by kernel_rfl)) (fun _ _ _ h => h) (Or.inl ⟨by rfl, ?_⟩) hHeld ?_ ?_; rotate_left
      · intro w' s0; go_simp; with_reducible rfl
      rotate_left
      · simp only [Act.put, List.setIfInBounds_toArray, List.set_cons_zero, List.set_cons_succ, i64_w, i32_w]; rfl
      refine pure_ (i := 6) (N := some 102) (v := ?_) (a' := ?_) (li_tb_get_lb 9 255) rfl rfl (any_of HT_.out (by kernel_rfl)) (fun _ _ _ h => h) (Or.inl ⟨by rfl, ?_⟩) ?_ ?_; rotate_left
      · intro w'; go_simp; with_reducible rfl
      rotate_left
      · simp only [Act.put, List.setIfInBounds_toArray, List.set_cons_zero, List.set_cons_succ, i64_w, i32_w]; rfl
      refine last_ (i := 8) (N := none) (li_tb_get_lb 9 511) rfl rfl (one_of HT_.out (by kernel_rfl)) (by decide) (fun K hK => ?_)
      refine wq_skip (ty := 30) (p := .tmp 5) (x := .tmp 102) (g := g2) (i := 0) (k := 4) (v := ?v8) (vs := ?vs8) (cs' := ?cs8) ?hw8 ?hN8 ?ho8 ?hp8 ?hx8 ?hvc8 ?hi8 ?hk8 ?h18 B2.out ?hsz8 ?hcs8 ?_
      case hi8 => kernel_rfl
      case hw8 => rfl
      case hN8 => rfl
      case ho8 => rfl
      case hp8 => rfl
      case hx8 => go_simp; with_reducible rfl
      case hvc8 => simp only [Value.cells]; with_reducible rfl
      case hk8 => rfl
      case h18 => rfl
      case hsz8 => exact Nat.le_of_ble_eq_true rfl
      case hcs8 => simp only [wqPut, List.setIfInBounds_toArray, List.set_cons_succ, List.set_cons_zero, Nat.reduceAdd]; with_reducible rfl
      intro zw2_ hb hgr
      have n_HB := Aside0.mk (HB.out.grown hgr HB.out.size (fun k hk => by cases hk; exact HGB2.out.2))
      have n_B1 := Aside0.mk (wq_blk B1.out hgr HGB2.out.1)
      have n_B2 := Aside0.mk hb
      clear HB B1 B2 hb hgr
      have HB := n_HB
      have B1 := n_B1
      have B2 := n_B2
      clear n_HB n_B1 n_B2
      refine hK.out _ _ ?_
      clear hK K
      refine done_ (done_of HT_.out (by kernel_rfl)) ?_
      go_wp2
      refine bodyPost_ret (res_tc rfl _ _ _ _ _ _ _ rfl B2.out Try.underlying30 rfl (by kernel_rfl)) rfl ?_
      exact ⟨some ad, c0, rfl, HC0.out, Kd.C_below HR0.out HB.out, HB.out, by first | exact .inl rfl | exact .inl ⟨rfl, rfl⟩⟩
def li_tb_del_lb (n m : Nat) : Array Bool := ((List.range n).map (fun i => m.testBit i)).toArray
def li_tb_del.T5 : Bool × List (List Nat × List Nat) := (true, [([], []), ([], []), ([0, 1], [0, 1]), ([2], [2]), ([3], [3]), ([], []), ([5], [5]), ([4, 6], [4, 6])])
def li_tb_del.B5 : List Nat := [0, 0, 3, 7, 15, 0, 32, 127]
theorem li_tb_del.tab5 : rtab .any (opsOf Try.f10 5) = li_tb_del.T5 := by kernel_rfl
theorem li_tb_del.bits5 : waitsOk li_tb_del.T5.2 li_tb_del.B5 = true := by kernel_rfl
set_option maxHeartbeats 8000000 in
set_option maxRecDepth 100000 in
theorem li_tb_del (A0 : Option Addr) (c0 : Nat) (l : List S53) (kd k v q : Int) (hl : l.length ≤ 1000000) (hs : Rising l) (W : World) (hr0 : Kd.C k53 W A0 l.length l) (hc0 : l.length ≤ c0) (i : Nat) (hi : kix l k = i) (hil : i ≤ l.length) (hk2 : kd = 2) (hth : kthere l k = true) (hlt : i < l.length) :
    Calls Try.prog 10 #[.slice A0 l.length c0, .agg #[.int .i64 kd, .int .u64 k, .int .u64 v, .int .i64 q]] W fun e w' => ∃ A c, e = .returned (.tuple #[.slice A (dell l i).length c, .agg #[.int .i64 0, .bool true, .int .u64 0, .slice none 0 0]]) ∧ (dell l i).length ≤ c ∧ Kd.C k53 w' A (dell l i).length (dell l i) ∧ Below W.heap.size W w' ∧ ((A = A0 ∧ (dell l i) = l) ∨ ∀ ad, A = some ad → W.heap.size ≤ ad.block) := by
  have HR0 := Aside0.mk hr0
  have HC0 := Aside0.mk hc0
  have HL := Aside0.mk hl
  have HSR := Aside0.mk hs
  have HI := Aside0.mk hi
  have HIL := Aside0.mk hil
  have HTH := Aside0.mk hth
  have HB := Aside0.mk (Below.refl W.heap.size W)
  subst hk2
  have HLT := Aside0.mk hlt
  clear hr0 hc0 hl hs hi hil hth hlt
  go_enter Try.func10, Try.ntmps10
  go_wp2_with (first | ((with_reducible refine gate_dst (N := 3) rfl ?_); refine box_event ?hg9 (N := 3) ?hd9 (cs := #[.int .i64 2, .int .u64 k, .int .u64 v, .int .i64 q]) (t := 25) ?hr9 ?_; (case hd9 => rfl); (case hg9 => rfl); (case hr9 => first | (go_simp; done) | (go_simp; rfl)); intro g1 hg w1_ hbox hbk; have HGB1 := Aside0.mk (show W.heap.size ≤ g1 from by rw [hg]; have := HB.out.size; omega); have n_HB := Aside0.mk (below_step HB.out hbk); clear HB; have HB := n_HB; clear n_HB; have B1 := Aside0.mk hbox; clear hbk hbox hg) | ((with_reducible refine gate_dst (N := 5) rfl ?_); refine box_event ?hg10 (N := 5) ?hd10 (cs := #[.int .i64 0, .bool false, .int .u64 0, .slice none 0 0]) (t := 30) ?hr10 ?_; (case hd10 => rfl); (case hg10 => rfl); (case hr10 => first | (go_simp; done) | (go_simp; rfl)); intro g2 hg w2_ hbox hbk; have HGB2 := Aside0.mk (show g1 ≠ g2 ∧ W.heap.size ≤ g2 from by rw [hg]; have := blk_lt B1.out; have := HB.out.size; omega); have n_HB := Aside0.mk (below_step HB.out hbk); have n_B1 := Aside0.mk (blk_below B1.out hbk); clear HB B1; have HB := n_HB; have B1 := n_B1; clear n_HB n_B1; have B2 := Aside0.mk hbox; clear hbk hbox hg))
  go_loopg [6, 7] l.length (fun kq v6 v7 wr => ∃ (j : Nat) (t : Int), v7 = .int .i64 j ∧ v6 = .int .i64 t ∧ Aside0 (j ≤ l.length) ∧ Aside0 (l.length - j ≤ kq) ∧ Aside0 (AT l k j t) ∧ Aside0 (wr.heap[g1]? = some (.cells #[.int .i64 2, .int .u64 k, .int .u64 v, .int .i64 q] 25 (0, 0))) ∧ Aside0 (wr.heap[g2]? = some (.cells #[.int .i64 0, .bool false, .int .u64 0, .slice none 0 0] 30 (0, 0))) ∧ Aside0 (Below W.heap.size W wr))
  case atStart => exact ⟨0, -1, rfl, rfl, ⟨Nat.zero_le _⟩, ⟨by omega⟩, ⟨AT.zero l k⟩, B1, B2, HB⟩
  case round =>
    clear HB B1 B2
    obtain ⟨j, t, rfl, rfl, HJ, HK, HAT, B1, B2, HB⟩ := hrel
    by_cases hjl : j < l.length
    · have hlt : (j : Int) < (l.length : Int) := by omega
      have HJL := Aside0.mk hjl
      have hj0 : (0 : Int) ≤ (j : Int) := by omega
      have hjb : (j : Int) ≤ 1000000 := by have := HL.out; omega
      obtain ⟨ad, eA, hW0, hW1⟩ := at_T53 HR0.out (j : Int) (by omega) (by omega)
      cases eA
      simp only [Int.toNat_natCast] at hW0 hW1
      clear hjl
      by_cases hc : (rd_T53 l (j : Int)).f0 = k
      · have hcb : ((rd_T53 l (j : Int)).f0 == k) = true := beq_iff_eq.mpr hc
        have HC := Aside0.mk hc
        clear hc
        go_upto_region 5 with fail
        obtain ⟨XB1, hXB1, hb_B1⟩ := wq_name B1.out
        clear B1
        have B1 := Aside0.mk hb_B1
        have HXB1 := Aside0.mk hXB1
        clear hXB1 hb_B1
        have n_HB := Aside0.mk (below_drew1 HB.out)
        have n_B1 := Aside0.mk (blk_drew B1.out)
        have n_B2 := Aside0.mk (blk_drew B2.out)
        clear HB B1 B2
        have HB := n_HB
        have B1 := n_B1
        have B2 := n_B2
        clear n_HB n_B1 n_B2
        refine start_ (n := 8) (S := fun w' => w'.heap[g1]? = some (.cells XB1 25 (0, 0)) ∧ w'.cell? (ad.add (j * 2)) = some (.int .u64 (rd_T53 l (j : Int)).f0)) (ds := []) #[false, false, false, false, false, false, false, false] (by kernel_rfl) rfl rfl ⟨B1.out, (pw_cell_below HB.out hW0)⟩ (fun hHeld => ?_); refine with_tabW li_tb_del.tab5 li_tb_del.bits5 (fun HT_ HW_ => ?_)
        generalize wr.drew = pv1_ at HB B1 B2 hHeld ⊢
        refine pure_ (i := 0) (N := some 17) (v := ?_) (a' := ?_) (li_tb_del_lb 8 1) rfl rfl (any_of HT_.out (by kernel_rfl)) (fun _ _ _ h => h) (Or.inl ⟨by rfl, ?_⟩) ?_ ?_; rotate_left
        · intro w'; go_simp; with_reducible rfl
        rotate_left
        · simp only [Act.put, List.setIfInBounds_toArray, List.set_cons_zero, List.set_cons_succ, i64_w, i32_w]; rfl
        refine pure_ (i := 1) (N := some 18) (v := ?_) (a' := ?_) (li_tb_del_lb 8 3) rfl rfl (any_of HT_.out (by kernel_rfl)) (fun _ _ _ h => h) (Or.inl ⟨by rfl, ?_⟩) ?_ ?_; rotate_left
        · intro w'; go_simp; with_reducible rfl
        rotate_left
        · simp only [Act.put, List.setIfInBounds_toArray, List.set_cons_zero, List.set_cons_succ, i64_w, i32_w]; rfl
        refine pure_ (i := 2) (N := some 19) (v := ?_) (a' := ?_) (li_tb_del_lb 8 7) rfl rfl (any_of HT_.out (by kernel_rfl)) (fun _ _ _ h => h) (Or.inl ⟨by rfl, ?_⟩) ?_ ?_; rotate_left
        · intro w'; go_simp; with_reducible rfl
        rotate_left
        · simp only [Act.put, List.setIfInBounds_toArray, List.set_cons_zero, List.set_cons_succ, i64_w, i32_w]; rfl
        refine pure_ (i := 3) (N := some 20) (v := ?_) (a' := ?_) (li_tb_del_lb 8 15) rfl rfl (any_of HT_.out (by kernel_rfl)) (fun _ _ _ h => h) (Or.inl ⟨by rfl, ?_⟩) ?_ ?_; rotate_left
        · intro w'; go_simp; with_reducible rfl
        rotate_left
        · simp only [Act.put, List.setIfInBounds_toArray, List.set_cons_zero, List.set_cons_succ, i64_w, i32_w]; rfl
        refine pure_ (i := 5) (N := some 22) (v := ?_) (a' := ?_) (li_tb_del_lb 8 47) rfl rfl (any_of HT_.out (by kernel_rfl)) (fun _ _ _ h => h) (Or.inl ⟨by rfl, ?_⟩) ?_ ?_; rotate_left
        · intro w'; go_simp; with_reducible rfl
        rotate_left
        · simp only [Act.put, List.setIfInBounds_toArray, List.set_cons_zero, List.set_cons_succ, i64_w, i32_w]; rfl
        refine take_ (i := 4) (N := some 21) (v := ?_) (a' := ?_) (li_tb_del_lb 8 63) rfl rfl (take_ofW HT_.out HW_.out (by kernel_rfl)) (fun _ _ _ h => h) (Or.inl ⟨by rfl, ?_⟩) hHeld ?_ ?_; rotate_left
        · rintro w' ⟨s0, s1⟩; go_simp; with_reducible rfl
        rotate_left
        · simp only [Act.put, List.setIfInBounds_toArray, List.set_cons_zero, List.set_cons_succ, i64_w, i32_w]; rfl
        refine take_ (i := 6) (N := some 23) (v := ?_) (a' := ?_) (li_tb_del_lb 8 127) rfl rfl (take_ofW HT_.out HW_.out (by kernel_rfl)) (fun _ _ _ h => h) (Or.inl ⟨by rfl, ?_⟩) hHeld ?_ ?_; rotate_left
        · rintro w' ⟨s0, s1⟩; refine Eq.trans (wq_run_load1 (ty := 23) (p := .tmp 22) (g := g1) (i := 1) (v := ?v11) ?ho11 ?hp11 Try.underlying23 ?hd11 s0 ?hv11) ?fin11; (case hd11 => rfl); (case ho11 => rfl); (case hp11 => rfl); (case hv11 => rewrite [HXB1.out]; rfl); (case fin11 => with_reducible rfl)
        rotate_left
        · simp only [Act.put, List.setIfInBounds_toArray, List.set_cons_zero, List.set_cons_succ, i64_w, i32_w]; rfl
        refine pure_ (i := 7) (N := some 24) (v := ?_) (a' := ?_) (li_tb_del_lb 8 255) rfl rfl (any_of HT_.out (by kernel_rfl)) (fun _ _ _ h => h) (Or.inl ⟨by rfl, ?_⟩) ?_ ?_; rotate_left
        · intro w'; go_simp; with_reducible rfl
        rotate_left
        · simp only [Act.put, List.setIfInBounds_toArray, List.set_cons_zero, List.set_cons_succ, i64_w, i32_w]; rfl
        refine done_ (done_of HT_.out (by kernel_rfl)) ?_
        have hX := HXB1.out
        subst hX
        clear HXB1
        go_wp2
        go_roundg (l.length - (j + 1))
        case measure => have := HJL.out; have := HK.out; omega
        case rel =>
          have hjl := HJL.out
          have hcc := HC.out
          rw [li_rd l j hjl] at hcc
          have hll := HL.out
          exact ⟨j + 1, (j : Int), by first | rfl | (rw [show wrap64 ((j : Int) + 1) = ((j + 1 : Nat) : Int) from by unfold wrap64; omega]), rfl, ⟨hjl⟩, ⟨by omega⟩, ⟨AT.yes hjl hcc⟩, B1, B2, HB⟩
      · have hcb : ((rd_T53 l (j : Int)).f0 == k) = false := beq_eq_false_iff_ne.mpr hc
        have HC := Aside0.mk hc
        clear hc
        go_upto_region 5 with fail
        obtain ⟨XB1, hXB1, hb_B1⟩ := wq_name B1.out
        clear B1
        have B1 := Aside0.mk hb_B1
        have HXB1 := Aside0.mk hXB1
        clear hXB1 hb_B1
        have n_HB := Aside0.mk (below_drew1 HB.out)
        have n_B1 := Aside0.mk (blk_drew B1.out)
        have n_B2 := Aside0.mk (blk_drew B2.out)
        clear HB B1 B2
        have HB := n_HB
        have B1 := n_B1
        have B2 := n_B2
        clear n_HB n_B1 n_B2
        refine start_ (n := 8) (S := fun w' => w'.heap[g1]? = some (.cells XB1 25 (0, 0)) ∧ w'.cell? (ad.add (j * 2)) = some (.int .u64 (rd_T53 l (j : Int)).f0)) (ds := []) #[false, false, false, false, false, false, false, false] (by kernel_rfl) rfl rfl ⟨B1.out, (pw_cell_below HB.out hW0)⟩ (fun hHeld => ?_); refine with_tabW li_tb_del.tab5 li_tb_del.bits5 (fun HT_ HW_ => ?_)
        generalize wr.drew = qv1_ at HB B1 B2 hHeld ⊢
        refine pure_ (i := 0) (N := some 17) (v := ?_) (a' := ?_) (li_tb_del_lb 8 1) rfl rfl (any_of HT_.out (by kernel_rfl)) (fun _ _ _ h => h) (Or.inl ⟨by rfl, ?_⟩) ?_ ?_; rotate_left
        · intro w'; go_simp; with_reducible rfl
        rotate_left
        · simp only [Act.put, List.setIfInBounds_toArray, List.set_cons_zero, List.set_cons_succ, i64_w, i32_w]; rfl
        refine pure_ (i := 1) (N := some 18) (v := ?_) (a' := ?_) (li_tb_del_lb 8 3) rfl rfl (any_of HT_.out (by kernel_rfl)) (fun _ _ _ h => h) (Or.inl ⟨by rfl, ?_⟩) ?_ ?_; rotate_left
        · intro w'; go_simp; with_reducible rfl
        rotate_left
        · simp only [Act.put, List.setIfInBounds_toArray, List.set_cons_zero, List.set_cons_succ, i64_w, i32_w]; rfl
        refine pure_ (i := 2) (N := some 19) (v := ?_) (a' := ?_) (li_tb_del_lb 8 7) rfl rfl (any_of HT_.out (by kernel_rfl)) (fun _ _ _ h => h) (Or.inl ⟨by rfl, ?_⟩) ?_ ?_; rotate_left
        · intro w'; go_simp; with_reducible rfl
        rotate_left
        · simp only [Act.put, List.setIfInBounds_toArray, List.set_cons_zero, List.set_cons_succ, i64_w, i32_w]; rfl
        refine pure_ (i := 3) (N := some 20) (v := ?_) (a' := ?_) (li_tb_del_lb 8 15) rfl rfl (any_of HT_.out (by kernel_rfl)) (fun _ _ _ h => h) (Or.inl ⟨by rfl, ?_⟩) ?_ ?_; rotate_left
        · intro w'; go_simp; with_reducible rfl
        rotate_left
        · simp only [Act.put, List.setIfInBounds_toArray, List.set_cons_zero, List.set_cons_succ, i64_w, i32_w]; rfl
        refine pure_ (i := 5) (N := some 22) (v := ?_) (a' := ?_) (li_tb_del_lb 8 47) rfl rfl (any_of HT_.out (by kernel_rfl)) (fun _ _ _ h => h) (Or.inl ⟨by rfl, ?_⟩) ?_ ?_; rotate_left
        · intro w'; go_simp; with_reducible rfl
        rotate_left
        · simp only [Act.put, List.setIfInBounds_toArray, List.set_cons_zero, List.set_cons_succ, i64_w, i32_w]; rfl
        refine take_ (i := 4) (N := some 21) (v := ?_) (a' := ?_) (li_tb_del_lb 8 63) rfl rfl (take_ofW HT_.out HW_.out (by kernel_rfl)) (fun _ _ _ h => h) (Or.inl ⟨by rfl, ?_⟩) hHeld ?_ ?_; rotate_left
        · rintro w' ⟨s0, s1⟩; go_simp; with_reducible rfl
        rotate_left
        · simp only [Act.put, List.setIfInBounds_toArray, List.set_cons_zero, List.set_cons_succ, i64_w, i32_w]; rfl
        refine take_ (i := 6) (N := some 23) (v := ?_) (a' := ?_) (li_tb_del_lb 8 127) rfl rfl (take_ofW HT_.out HW_.out (by kernel_rfl)) (fun _ _ _ h => h) (Or.inl ⟨by rfl, ?_⟩) hHeld ?_ ?_; rotate_left
        · rintro w' ⟨s0, s1⟩; refine Eq.trans (wq_run_load1 (ty := 23) (p := .tmp 22) (g := g1) (i := 1) (v := ?v12) ?ho12 ?hp12 Try.underlying23 ?hd12 s0 ?hv12) ?fin12; (case hd12 => rfl); (case ho12 => rfl); (case hp12 => rfl); (case hv12 => rewrite [HXB1.out]; rfl); (case fin12 => with_reducible rfl)
        rotate_left
        · simp only [Act.put, List.setIfInBounds_toArray, List.set_cons_zero, List.set_cons_succ, i64_w, i32_w]; rfl
        refine pure_ (i := 7) (N := some 24) (v := ?_) (a' := ?_) (li_tb_del_lb 8 255) rfl rfl (any_of HT_.out (by kernel_rfl)) (fun _ _ _ h => h) (Or.inl ⟨by rfl, ?_⟩) ?_ ?_; rotate_left
        · intro w'; go_simp; with_reducible rfl
        rotate_left
        · simp only [Act.put, List.setIfInBounds_toArray, List.set_cons_zero, List.set_cons_succ, i64_w, i32_w]; rfl
        refine done_ (done_of HT_.out (by kernel_rfl)) ?_
        have hX := HXB1.out
        subst hX
        clear HXB1
        go_wp2
        go_roundg (l.length - (j + 1))
        case measure => have := HJL.out; have := HK.out; omega
        case rel =>
          have hjl := HJL.out
          have hcc := HC.out
          rw [li_rd l j hjl] at hcc
          have hll := HL.out
          exact ⟨j + 1, t, by first | rfl | (rw [show wrap64 ((j : Int) + 1) = ((j + 1 : Nat) : Int) from by unfold wrap64; omega]), rfl, ⟨hjl⟩, ⟨by omega⟩, ⟨AT.no hjl hcc HAT.out⟩, B1, B2, HB⟩
    · have hnlt : ¬ ((j : Int) < (l.length : Int)) := by omega
      have hjj : j = l.length := by have := HJ.out; omega
      subst hjj
      have ht : t = (i : Int) := by rw [AT.there HSR.out HTH.out HAT.out, HI.out]
      subst ht
      have hi0 : (0 : Int) ≤ (i : Int) := by omega
      have hib : (i : Int) ≤ 1000000 := by have := HL.out; have := HIL.out; omega
      have hil2 : (i : Int) ≤ (l.length : Int) := by have := HIL.out; omega
      obtain ⟨ad, eA, hW0, hW1⟩ := at_T53 HR0.out (i : Int) (by omega) (by have := HLT.out; omega)
      cases eA
      simp only [Int.toNat_natCast] at hW0 hW1
      have hil3 : (i : Int) < (l.length : Int) := by have := HLT.out; omega
      have hic : (i : Int) ≤ (c0 : Int) := by have := HC0.out; omega
      have hi1 : (i : Int) + 1 ≤ (l.length : Int) := by omega
      have hlc : (l.length : Int) ≤ (c0 : Int) := by have := HC0.out; omega
      have htn : ((i : Int) + 1).toNat = i + 1 := by omega
      have hi2 : (0 : Int) ≤ (i : Int) + 1 := by omega
      by_cases hcc : c0 = i + 1
      · have HDE := Aside0.mk (show l.drop (i + 1) = [] from List.drop_of_length_le (by have := HC0.out; omega))
        replace hcc := eq_true hcc
        go_wp2_with (first | ((with_reducible refine gate_dst (N := 27) rfl ?_); refine wq_load1 (ty := 3) (p := .tmp 26) (g := g1) (i := 0) (v := ?v13) ?hgd13 ?ho13 ?hp13 Try.underlying3 ?hd13 B1.out ?hv13 ?_; (case hd13 => rfl); (case hgd13 => rfl); (case ho13 => rfl); (case hp13 => rfl); (case hv13 => rfl)) | ((with_reducible refine gate_dst (N := 70) rfl ?_); refine wq_load1 (ty := 3) (p := .tmp 69) (g := g1) (i := 0) (v := ?v14) ?hgd14 ?ho14 ?hp14 Try.underlying3 ?hd14 B1.out ?hv14 ?_; (case hd14 => rfl); (case hgd14 => rfl); (case ho14 => rfl); (case hp14 => rfl); (case hv14 => rfl)) | (refine li_ev0 (ad := ad) (m := i) (c := c0) rfl (.tmp 76) (.tmp 79) rfl rfl (by rfl) (by have := HIL.out; rw [List.length_take]; omega) (cells_take (C_cells (Kd.C_below HR0.out HB.out)) i) (by have := HL.out; have := HIL.out; rw [List.length_take]; omega) ?_; intro v1 w1 ho hbk; have hNN : ∃ N, g1 < N ∧ g2 < N ∧ W.heap.size ≤ N ∧ N ≤ w1.heap.size ∧ OW w1 N v1 _ := ⟨_, blk_lt B1.out, blk_lt B2.out, HB.out.size, hbk.size, ho⟩; have n_HB := Aside0.mk (below_step HB.out hbk); have n_B1 := Aside0.mk (blk_below B1.out hbk); have n_B2 := Aside0.mk (blk_below B2.out hbk); clear HB B1 B2; have HB := n_HB; have B1 := n_B1; have B2 := n_B2; clear n_HB n_B1 n_B2; clear hbk ho; obtain ⟨N, n1, n2, n3, n4, n5⟩ := hNN; have HN := Aside0.mk (And.intro n1 (And.intro n2 n3)); have HS := Aside0.mk n4; have HO := Aside0.mk n5; clear n1 n2 n3 n4 n5) | (refine li_ev1 (v := v1) (ad := ad) (m := l.length - (i + 1)) (c := c0 - (i + 1)) rfl (.tmp 81) (.tmp 85) rfl rfl rfl HO.out HS.out (by rw [List.length_drop]) (fun j u hj => by rw [HDE.out] at hj; simp [encs_nil] at hj) (by have := HL.out; have := HIL.out; rw [List.length_take]; omega) (by have := HL.out; rw [List.length_drop]; omega) ?_; intro v2 w2 ho hbk; have n_HO := Aside0.mk ho; have n_HS := Aside0.mk (Nat.le_trans HS.out hbk.size); have n_HB := Aside0.mk (HB.out.trans (hbk.mono HN.out.2.2)); have n_B1 := Aside0.mk ((hbk.block g1 HN.out.1).trans B1.out); have n_B2 := Aside0.mk ((hbk.block g2 HN.out.2.1).trans B2.out); clear HB HO HS B1 B2 ho hbk; have HB := n_HB; have HO := n_HO; have HS := n_HS; have B1 := n_B1; have B2 := n_B2; clear n_HB n_HO n_HS n_B1 n_B2) | ((with_reducible refine gate_store (p := 5) rfl ?_); refine wq_store (ty := 30) (p := .tmp 5) (x := .tmp 88) (g := g2) (i := 0) (k := 4) (v := ?v15) (vs := ?vs15) (cs' := ?cs15) ?hgd15 ?hdst15 ?ho15 ?hp15 ?hx15 ?hvc15 ?hi15 ?hk15 ?h115 B2.out ?hsz15 ?hcs15 ?_; (case hi15 => kernel_rfl); (case hgd15 => rfl); (case hdst15 => rfl); (case ho15 => rfl); (case hp15 => rfl); (case hx15 => go_simp; with_reducible rfl); (case hvc15 => simp only [Value.cells]; with_reducible rfl); (case hk15 => rfl); (case h115 => rfl); (case hsz15 => exact Nat.le_of_ble_eq_true rfl); (case hcs15 => simp only [wqPut, List.setIfInBounds_toArray, List.set_cons_succ, List.set_cons_zero, Nat.reduceAdd]; with_reducible rfl); intro zpw1_ hb hgr; have n_HB := Aside0.mk (HB.out.grown hgr HB.out.size (fun k hk => by cases hk; exact HGB2.out.2)); have n_HO := Aside0.mk (OW.grown HO.out hgr HN.out.2.1); have n_HS := Aside0.mk (Nat.le_trans HS.out hgr.size); have n_B1 := Aside0.mk (wq_blk B1.out hgr HGB2.out.1); have n_B2 := Aside0.mk hb; clear HB HO HS B1 B2 hb hgr; have HB := n_HB; have HO := n_HO; have HS := n_HS; have B1 := n_B1; have B2 := n_B2; clear n_HB n_HO n_HS n_B1 n_B2))
        have HO2 := Aside0.mk (show OW _ N v2 (dell l i) from HO.out)
        clear HO
        have HO := HO2
        obtain ⟨A1, c1, e1, e2, e3, e4⟩ := OW.C3 HO.out
        subst e1
        refine bodyPost_ret (res_tc rfl _ _ _ _ _ _ _ rfl B2.out Try.underlying30 rfl (by kernel_rfl)) rfl ?_
        exact ⟨A1, c1, rfl, e2, e3, HB.out, .inr (fun q hq => Nat.le_trans HN.out.2.2 (e4 q hq))⟩
      · skip
        go_wp2_with (first | ((with_reducible refine gate_dst (N := 27) rfl ?_); refine wq_load1 (ty := 3) (p := .tmp 26) (g := g1) (i := 0) (v := ?v16) ?hgd16 ?ho16 ?hp16 Try.underlying3 ?hd16 B1.out ?hv16 ?_; (case hd16 => rfl); (case hgd16 => rfl); (case ho16 => rfl); (case hp16 => rfl); (case hv16 => rfl)) | ((with_reducible refine gate_dst (N := 70) rfl ?_); refine wq_load1 (ty := 3) (p := .tmp 69) (g := g1) (i := 0) (v := ?v17) ?hgd17 ?ho17 ?hp17 Try.underlying3 ?hd17 B1.out ?hv17 ?_; (case hd17 => rfl); (case hgd17 => rfl); (case ho17 => rfl); (case hp17 => rfl); (case hv17 => rfl)) | (refine li_ev0 (ad := ad) (m := i) (c := c0) rfl (.tmp 76) (.tmp 79) rfl rfl (by rfl) (by have := HIL.out; rw [List.length_take]; omega) (cells_take (C_cells (Kd.C_below HR0.out HB.out)) i) (by have := HL.out; have := HIL.out; rw [List.length_take]; omega) ?_; intro v1 w1 ho hbk; have hNN : ∃ N, g1 < N ∧ g2 < N ∧ W.heap.size ≤ N ∧ N ≤ w1.heap.size ∧ OW w1 N v1 _ := ⟨_, blk_lt B1.out, blk_lt B2.out, HB.out.size, hbk.size, ho⟩; have n_HB := Aside0.mk (below_step HB.out hbk); have n_B1 := Aside0.mk (blk_below B1.out hbk); have n_B2 := Aside0.mk (blk_below B2.out hbk); clear HB B1 B2; have HB := n_HB; have B1 := n_B1; have B2 := n_B2; clear n_HB n_B1 n_B2; clear hbk ho; obtain ⟨N, n1, n2, n3, n4, n5⟩ := hNN; have HN := Aside0.mk (And.intro n1 (And.intro n2 n3)); have HS := Aside0.mk n4; have HO := Aside0.mk n5; clear n1 n2 n3 n4 n5) | (refine li_ev1 (v := v1) (ad := ad.add ((i + 1) * 2)) (m := l.length - (i + 1)) (c := c0 - (i + 1)) rfl (.tmp 81) (.tmp 85) rfl rfl rfl HO.out HS.out (by rw [List.length_drop]) (cells_drop (C_cells (Kd.C_below HR0.out HB.out)) (i + 1)) (by have := HL.out; have := HIL.out; rw [List.length_take]; omega) (by have := HL.out; rw [List.length_drop]; omega) ?_; intro v2 w2 ho hbk; have n_HO := Aside0.mk ho; have n_HS := Aside0.mk (Nat.le_trans HS.out hbk.size); have n_HB := Aside0.mk (HB.out.trans (hbk.mono HN.out.2.2)); have n_B1 := Aside0.mk ((hbk.block g1 HN.out.1).trans B1.out); have n_B2 := Aside0.mk ((hbk.block g2 HN.out.2.1).trans B2.out); clear HB HO HS B1 B2 ho hbk; have HB := n_HB; have HO := n_HO; have HS := n_HS; have B1 := n_B1; have B2 := n_B2; clear n_HB n_HO n_HS n_B1 n_B2) | ((with_reducible refine gate_store (p := 5) rfl ?_); refine wq_store (ty := 30) (p := .tmp 5) (x := .tmp 88) (g := g2) (i := 0) (k := 4) (v := ?v18) (vs := ?vs18) (cs' := ?cs18) ?hgd18 ?hdst18 ?ho18 ?hp18 ?hx18 ?hvc18 ?hi18 ?hk18 ?h118 B2.out ?hsz18 ?hcs18 ?_; (case hi18 => kernel_rfl); (case hgd18 => rfl); (case hdst18 => rfl); (case ho18 => rfl); (case hp18 => rfl); (case hx18 => go_simp; with_reducible rfl); (case hvc18 => simp only [Value.cells]; with_reducible rfl); (case hk18 => rfl); (case h118 => rfl); (case hsz18 => exact Nat.le_of_ble_eq_true rfl); (case hcs18 => simp only [wqPut, List.setIfInBounds_toArray, List.set_cons_succ, List.set_cons_zero, Nat.reduceAdd]; with_reducible rfl); intro zqw1_ hb hgr; have n_HB := Aside0.mk (HB.out.grown hgr HB.out.size (fun k hk => by cases hk; exact HGB2.out.2)); have n_HO := Aside0.mk (OW.grown HO.out hgr HN.out.2.1); have n_HS := Aside0.mk (Nat.le_trans HS.out hgr.size); have n_B1 := Aside0.mk (wq_blk B1.out hgr HGB2.out.1); have n_B2 := Aside0.mk hb; clear HB HO HS B1 B2 hb hgr; have HB := n_HB; have HO := n_HO; have HS := n_HS; have B1 := n_B1; have B2 := n_B2; clear n_HB n_HO n_HS n_B1 n_B2))
        have HO2 := Aside0.mk (show OW _ N v2 (dell l i) from HO.out)
        clear HO
        have HO := HO2
        obtain ⟨A1, c1, e1, e2, e3, e4⟩ := OW.C3 HO.out
        subst e1
        refine bodyPost_ret (res_tc rfl _ _ _ _ _ _ _ rfl B2.out Try.underlying30 rfl (by kernel_rfl)) rfl ?_
        exact ⟨A1, c1, rfl, e2, e3, HB.out, .inr (fun q hq => Nat.le_trans HN.out.2.2 (e4 q hq))⟩
def li_tb_ins0_lb (n m : Nat) : Array Bool := ((List.range n).map (fun i => m.testBit i)).toArray
def li_tb_ins0.T5 : Bool × List (List Nat × List Nat) := (true, [([], []), ([], []), ([0, 1], [0, 1]), ([2], [2]), ([3], [3]), ([], []), ([5], [5]), ([4, 6], [4, 6])])
def li_tb_ins0.B5 : List Nat := [0, 0, 3, 7, 15, 0, 32, 127]
theorem li_tb_ins0.tab5 : rtab .any (opsOf Try.f10 5) = li_tb_ins0.T5 := by kernel_rfl
theorem li_tb_ins0.bits5 : waitsOk li_tb_ins0.T5.2 li_tb_ins0.B5 = true := by kernel_rfl
set_option maxHeartbeats 8000000 in
set_option maxRecDepth 100000 in
theorem li_tb_ins0 (A0 : Option Addr) (c0 : Nat) (l : List S53) (kd k v q : Int) (hl : l.length ≤ 1000000) (hs : Rising l) (W : World) (hr0 : Kd.C k53 W A0 l.length l) (hc0 : l.length ≤ c0) (i : Nat) (hi : kix l k = i) (hil : i ≤ l.length) (hk1 : kd = 1) (hth : kthere l k = true) (hlt : i < l.length) :
    Calls Try.prog 10 #[.slice A0 l.length c0, .agg #[.int .i64 kd, .int .u64 k, .int .u64 v, .int .i64 q]] W fun e w' => ∃ A c, e = .returned (.tuple #[.slice A l.length c, .agg #[.int .i64 0, .bool false, .int .u64 0, .slice none 0 0]]) ∧ l.length ≤ c ∧ Kd.C k53 w' A l.length l ∧ Below W.heap.size W w' ∧ ((A = A0 ∧ l = l) ∨ ∀ ad, A = some ad → W.heap.size ≤ ad.block) := by
  have HR0 := Aside0.mk hr0
  have HC0 := Aside0.mk hc0
  have HL := Aside0.mk hl
  have HSR := Aside0.mk hs
  have HI := Aside0.mk hi
  have HIL := Aside0.mk hil
  have HTH := Aside0.mk hth
  have HB := Aside0.mk (Below.refl W.heap.size W)
  subst hk1
  have HLT := Aside0.mk hlt
  clear hr0 hc0 hl hs hi hil hth hlt
  go_enter Try.func10, Try.ntmps10
  go_wp2_with (first | ((with_reducible refine gate_dst (N := 3) rfl ?_); refine box_event ?hg19 (N := 3) ?hd19 (cs := #[.int .i64 1, .int .u64 k, .int .u64 v, .int .i64 q]) (t := 25) ?hr19 ?_; (case hd19 => rfl); (case hg19 => rfl); (case hr19 => first | (go_simp; done) | (go_simp; rfl)); intro g1 hg w1_ hbox hbk; have HGB1 := Aside0.mk (show W.heap.size ≤ g1 from by rw [hg]; have := HB.out.size; omega); have n_HB := Aside0.mk (below_step HB.out hbk); clear HB; have HB := n_HB; clear n_HB; have B1 := Aside0.mk hbox; clear hbk hbox hg) | ((with_reducible refine gate_dst (N := 5) rfl ?_); refine box_event ?hg20 (N := 5) ?hd20 (cs := #[.int .i64 0, .bool false, .int .u64 0, .slice none 0 0]) (t := 30) ?hr20 ?_; (case hd20 => rfl); (case hg20 => rfl); (case hr20 => first | (go_simp; done) | (go_simp; rfl)); intro g2 hg w2_ hbox hbk; have HGB2 := Aside0.mk (show g1 ≠ g2 ∧ W.heap.size ≤ g2 from by rw [hg]; have := blk_lt B1.out; have := HB.out.size; omega); have n_HB := Aside0.mk (below_step HB.out hbk); have n_B1 := Aside0.mk (blk_below B1.out hbk); clear HB B1; have HB := n_HB; have B1 := n_B1; clear n_HB n_B1; have B2 := Aside0.mk hbox; clear hbk hbox hg))
  go_loopg [6, 7] l.length (fun kq v6 v7 wr => ∃ (j : Nat) (t : Int), v7 = .int .i64 j ∧ v6 = .int .i64 t ∧ Aside0 (j ≤ l.length) ∧ Aside0 (l.length - j ≤ kq) ∧ Aside0 (AT l k j t) ∧ Aside0 (wr.heap[g1]? = some (.cells #[.int .i64 1, .int .u64 k, .int .u64 v, .int .i64 q] 25 (0, 0))) ∧ Aside0 (wr.heap[g2]? = some (.cells #[.int .i64 0, .bool false, .int .u64 0, .slice none 0 0] 30 (0, 0))) ∧ Aside0 (Below W.heap.size W wr))
  case atStart => exact ⟨0, -1, rfl, rfl, ⟨Nat.zero_le _⟩, ⟨by omega⟩, ⟨AT.zero l k⟩, B1, B2, HB⟩
  case round =>
    clear HB B1 B2
    obtain ⟨j, t, rfl, rfl, HJ, HK, HAT, B1, B2, HB⟩ := hrel
    by_cases hjl : j < l.length
    · have hlt : (j : Int) < (l.length : Int) := by omega
      have HJL := Aside0.mk hjl
      have hj0 : (0 : Int) ≤ (j : Int) := by omega
      have hjb : (j : Int) ≤ 1000000 := by have := HL.out; omega
      obtain ⟨ad, eA, hW0, hW1⟩ := at_T53 HR0.out (j : Int) (by omega) (by omega)
      cases eA
      simp only [Int.toNat_natCast] at hW0 hW1
      clear hjl
      by_cases hc : (rd_T53 l (j : Int)).f0 = k
      · have hcb : ((rd_T53 l (j : Int)).f0 == k) = true := beq_iff_eq.mpr hc
        have HC := Aside0.mk hc
        clear hc
        go_upto_region 5 with fail
        obtain ⟨XB1, hXB1, hb_B1⟩ := wq_name B1.out
        clear B1
        have B1 := Aside0.mk hb_B1
        have HXB1 := Aside0.mk hXB1
        clear hXB1 hb_B1
        have n_HB := Aside0.mk (below_drew1 HB.out)
        have n_B1 := Aside0.mk (blk_drew B1.out)
        have n_B2 := Aside0.mk (blk_drew B2.out)
        clear HB B1 B2
        have HB := n_HB
        have B1 := n_B1
        have B2 := n_B2
        clear n_HB n_B1 n_B2
        refine start_ (n := 8) (S := fun w' => w'.heap[g1]? = some (.cells XB1 25 (0, 0)) ∧ w'.cell? (ad.add (j * 2)) = some (.int .u64 (rd_T53 l (j : Int)).f0)) (ds := []) #[false, false, false, false, false, false, false, false] (by kernel_rfl) rfl rfl ⟨B1.out, (pw_cell_below HB.out hW0)⟩ (fun hHeld => ?_); refine with_tabW li_tb_ins0.tab5 li_tb_ins0.bits5 (fun HT_ HW_ => ?_)
        generalize wr.drew = pv1_ at HB B1 B2 hHeld ⊢
        refine pure_ (i := 0) (N := some 17) (v := ?_) (a' := ?_) (li_tb_ins0_lb 8 1) rfl rfl (any_of HT_.out (by kernel_rfl)) (fun _ _ _ h => h) (Or.inl ⟨by rfl, ?_⟩) ?_ ?_; rotate_left
        · intro w'; go_simp; with_reducible rfl
        rotate_left
        · simp only [Act.put, List.setIfInBounds_toArray, List.set_cons_zero, List.set_cons_succ, i64_w, i32_w]; rfl
        refine pure_ (i := 1) (N := some 18) (v := ?_) (a' := ?_) (li_tb_ins0_lb 8 3) rfl rfl (any_of HT_.out (by kernel_rfl)) (fun _ _ _ h => h) (Or.inl ⟨by rfl, ?_⟩) ?_ ?_; rotate_left
        · intro w'; go_simp; with_reducible rfl
        rotate_left
        · simp only [Act.put, List.setIfInBounds_toArray, List.set_cons_zero, List.set_cons_succ, i64_w, i32_w]; rfl
        refine pure_ (i := 2) (N := some 19) (v := ?_) (a' := ?_) (li_tb_ins0_lb 8 7) rfl rfl (any_of HT_.out (by kernel_rfl)) (fun _ _ _ h => h) (Or.inl ⟨by rfl, ?_⟩) ?_ ?_; rotate_left
        · intro w'; go_simp; with_reducible rfl
        rotate_left
        · simp only [Act.put, List.setIfInBounds_toArray, List.set_cons_zero, List.set_cons_succ, i64_w, i32_w]; rfl
        refine pure_ (i := 3) (N := some 20) (v := ?_) (a' := ?_) (li_tb_ins0_lb 8 15) rfl rfl (any_of HT_.out (by kernel_rfl)) (fun _ _ _ h => h) (Or.inl ⟨by rfl, ?_⟩) ?_ ?_; rotate_left
        · intro w'; go_simp; with_reducible rfl
        rotate_left
        · simp only [Act.put, List.setIfInBounds_toArray, List.set_cons_zero, List.set_cons_succ, i64_w, i32_w]; rfl
        refine pure_ (i := 5) (N := some 22) (v := ?_) (a' := ?_) (li_tb_ins0_lb 8 47) rfl rfl (any_of HT_.out (by kernel_rfl)) (fun _ _ _ h => h) (Or.inl ⟨by rfl, ?_⟩) ?_ ?_; rotate_left
        · intro w'; go_simp; with_reducible rfl
        rotate_left
        · simp only [Act.put, List.setIfInBounds_toArray, List.set_cons_zero, List.set_cons_succ, i64_w, i32_w]; rfl
        refine take_ (i := 4) (N := some 21) (v := ?_) (a' := ?_) (li_tb_ins0_lb 8 63) rfl rfl (take_ofW HT_.out HW_.out (by kernel_rfl)) (fun _ _ _ h => h) (Or.inl ⟨by rfl, ?_⟩) hHeld ?_ ?_; rotate_left
        · rintro w' ⟨s0, s1⟩; go_simp; with_reducible rfl
        rotate_left
        · simp only [Act.put, List.setIfInBounds_toArray, List.set_cons_zero, List.set_cons_succ, i64_w, i32_w]; rfl
        refine take_ (i := 6) (N := some 23) (v := ?_) (a' := ?_) (li_tb_ins0_lb 8 127) rfl rfl (take_ofW HT_.out HW_.out (by kernel_rfl)) (fun _ _ _ h => h) (Or.inl ⟨by rfl, ?_⟩) hHeld ?_ ?_; rotate_left
        · rintro w' ⟨s0, s1⟩; refine Eq.trans (wq_run_load1 (ty := 23) (p := .tmp 22) (g := g1) (i := 1) (v := ?v21) ?ho21 ?hp21 Try.underlying23 ?hd21 s0 ?hv21) ?fin21; (case hd21 => rfl); (case ho21 => rfl); (case hp21 => rfl); (case hv21 => rewrite [HXB1.out]; rfl); (case fin21 => with_reducible rfl)
        rotate_left
        · simp only [Act.put, List.setIfInBounds_toArray, List.set_cons_zero, List.set_cons_succ, i64_w, i32_w]; rfl
        refine pure_ (i := 7) (N := some 24) (v := ?_) (a' := ?_) (li_tb_ins0_lb 8 255) rfl rfl (any_of HT_.out (by kernel_rfl)) (fun _ _ _ h => h) (Or.inl ⟨by rfl, ?_⟩) ?_ ?_; rotate_left
        · intro w'; go_simp; with_reducible rfl
        rotate_left
        · simp only [Act.put, List.setIfInBounds_toArray, List.set_cons_zero, List.set_cons_succ, i64_w, i32_w]; rfl
        refine done_ (done_of HT_.out (by kernel_rfl)) ?_
        have hX := HXB1.out
        subst hX
        clear HXB1
        go_wp2
        go_roundg (l.length - (j + 1))
        case measure => have := HJL.out; have := HK.out; omega
        case rel =>
          have hjl := HJL.out
          have hcc := HC.out
          rw [li_rd l j hjl] at hcc
          have hll := HL.out
          exact ⟨j + 1, (j : Int), by first | rfl | (rw [show wrap64 ((j : Int) + 1) = ((j + 1 : Nat) : Int) from by unfold wrap64; omega]), rfl, ⟨hjl⟩, ⟨by omega⟩, ⟨AT.yes hjl hcc⟩, B1, B2, HB⟩
      · have hcb : ((rd_T53 l (j : Int)).f0 == k) = false := beq_eq_false_iff_ne.mpr hc
        have HC := Aside0.mk hc
        clear hc
        go_upto_region 5 with fail
        obtain ⟨XB1, hXB1, hb_B1⟩ := wq_name B1.out
        clear B1
        have B1 := Aside0.mk hb_B1
        have HXB1 := Aside0.mk hXB1
        clear hXB1 hb_B1
        have n_HB := Aside0.mk (below_drew1 HB.out)
        have n_B1 := Aside0.mk (blk_drew B1.out)
        have n_B2 := Aside0.mk (blk_drew B2.out)
        clear HB B1 B2
        have HB := n_HB
        have B1 := n_B1
        have B2 := n_B2
        clear n_HB n_B1 n_B2
        refine start_ (n := 8) (S := fun w' => w'.heap[g1]? = some (.cells XB1 25 (0, 0)) ∧ w'.cell? (ad.add (j * 2)) = some (.int .u64 (rd_T53 l (j : Int)).f0)) (ds := []) #[false, false, false, false, false, false, false, false] (by kernel_rfl) rfl rfl ⟨B1.out, (pw_cell_below HB.out hW0)⟩ (fun hHeld => ?_); refine with_tabW li_tb_ins0.tab5 li_tb_ins0.bits5 (fun HT_ HW_ => ?_)
        generalize wr.drew = qv1_ at HB B1 B2 hHeld ⊢
        refine pure_ (i := 0) (N := some 17) (v := ?_) (a' := ?_) (li_tb_ins0_lb 8 1) rfl rfl (any_of HT_.out (by kernel_rfl)) (fun _ _ _ h => h) (Or.inl ⟨by rfl, ?_⟩) ?_ ?_; rotate_left
        · intro w'; go_simp; with_reducible rfl
        rotate_left
        · simp only [Act.put, List.setIfInBounds_toArray, List.set_cons_zero, List.set_cons_succ, i64_w, i32_w]; rfl
        refine pure_ (i := 1) (N := some 18) (v := ?_) (a' := ?_) (li_tb_ins0_lb 8 3) rfl rfl (any_of HT_.out (by kernel_rfl)) (fun _ _ _ h => h) (Or.inl ⟨by rfl, ?_⟩) ?_ ?_; rotate_left
        · intro w'; go_simp; with_reducible rfl
        rotate_left
        · simp only [Act.put, List.setIfInBounds_toArray, List.set_cons_zero, List.set_cons_succ, i64_w, i32_w]; rfl
        refine pure_ (i := 2) (N := some 19) (v := ?_) (a' := ?_) (li_tb_ins0_lb 8 7) rfl rfl (any_of HT_.out (by kernel_rfl)) (fun _ _ _ h => h) (Or.inl ⟨by rfl, ?_⟩) ?_ ?_; rotate_left
        · intro w'; go_simp; with_reducible rfl
        rotate_left
        · simp only [Act.put, List.setIfInBounds_toArray, List.set_cons_zero, List.set_cons_succ, i64_w, i32_w]; rfl
        refine pure_ (i := 3) (N := some 20) (v := ?_) (a' := ?_) (li_tb_ins0_lb 8 15) rfl rfl (any_of HT_.out (by kernel_rfl)) (fun _ _ _ h => h) (Or.inl ⟨by rfl, ?_⟩) ?_ ?_; rotate_left
        · intro w'; go_simp; with_reducible rfl
        rotate_left
        · simp only [Act.put, List.setIfInBounds_toArray, List.set_cons_zero, List.set_cons_succ, i64_w, i32_w]; rfl
        refine pure_ (i := 5) (N := some 22) (v := ?_) (a' := ?_) (li_tb_ins0_lb 8 47) rfl rfl (any_of HT_.out (by kernel_rfl)) (fun _ _ _ h => h) (Or.inl ⟨by rfl, ?_⟩) ?_ ?_; rotate_left
        · intro w'; go_simp; with_reducible rfl
        rotate_left
        · simp only [Act.put, List.setIfInBounds_toArray, List.set_cons_zero, List.set_cons_succ, i64_w, i32_w]; rfl
        refine take_ (i := 4) (N := some 21) (v := ?_) (a' := ?_) (li_tb_ins0_lb 8 63) rfl rfl (take_ofW HT_.out HW_.out (by kernel_rfl)) (fun _ _ _ h => h) (Or.inl ⟨by rfl, ?_⟩) hHeld ?_ ?_; rotate_left
        · rintro w' ⟨s0, s1⟩; go_simp; with_reducible rfl
        rotate_left
        · simp only [Act.put, List.setIfInBounds_toArray, List.set_cons_zero, List.set_cons_succ, i64_w, i32_w]; rfl
        refine take_ (i := 6) (N := some 23) (v := ?_) (a' := ?_) (li_tb_ins0_lb 8 127) rfl rfl (take_ofW HT_.out HW_.out (by kernel_rfl)) (fun _ _ _ h => h) (Or.inl ⟨by rfl, ?_⟩) hHeld ?_ ?_; rotate_left
        · rintro w' ⟨s0, s1⟩; refine Eq.trans (wq_run_load1 (ty := 23) (p := .tmp 22) (g := g1) (i := 1) (v := ?v22) ?ho22 ?hp22 Try.underlying23 ?hd22 s0 ?hv22) ?fin22; (case hd22 => rfl); (case ho22 => rfl); (case hp22 => rfl); (case hv22 => rewrite [HXB1.out]; rfl); (case fin22 => with_reducible rfl)
        rotate_left
        · simp only [Act.put, List.setIfInBounds_toArray, List.set_cons_zero, List.set_cons_succ, i64_w, i32_w]; rfl
        refine pure_ (i := 7) (N := some 24) (v := ?_) (a' := ?_) (li_tb_ins0_lb 8 255) rfl rfl (any_of HT_.out (by kernel_rfl)) (fun _ _ _ h => h) (Or.inl ⟨by rfl, ?_⟩) ?_ ?_; rotate_left
        · intro w'; go_simp; with_reducible rfl
        rotate_left
        · simp only [Act.put, List.setIfInBounds_toArray, List.set_cons_zero, List.set_cons_succ, i64_w, i32_w]; rfl
        refine done_ (done_of HT_.out (by kernel_rfl)) ?_
        have hX := HXB1.out
        subst hX
        clear HXB1
        go_wp2
        go_roundg (l.length - (j + 1))
        case measure => have := HJL.out; have := HK.out; omega
        case rel =>
          have hjl := HJL.out
          have hcc := HC.out
          rw [li_rd l j hjl] at hcc
          have hll := HL.out
          exact ⟨j + 1, t, by first | rfl | (rw [show wrap64 ((j : Int) + 1) = ((j + 1 : Nat) : Int) from by unfold wrap64; omega]), rfl, ⟨hjl⟩, ⟨by omega⟩, ⟨AT.no hjl hcc HAT.out⟩, B1, B2, HB⟩
    · have hnlt : ¬ ((j : Int) < (l.length : Int)) := by omega
      have hjj : j = l.length := by have := HJ.out; omega
      subst hjj
      have ht : t = (i : Int) := by rw [AT.there HSR.out HTH.out HAT.out, HI.out]
      subst ht
      have hi0 : (0 : Int) ≤ (i : Int) := by omega
      have hib : (i : Int) ≤ 1000000 := by have := HL.out; have := HIL.out; omega
      have hil2 : (i : Int) ≤ (l.length : Int) := by have := HIL.out; omega
      go_wp2_with (first | ((with_reducible refine gate_dst (N := 27) rfl ?_); refine wq_load1 (ty := 3) (p := .tmp 26) (g := g1) (i := 0) (v := ?v23) ?hgd23 ?ho23 ?hp23 Try.underlying3 ?hd23 B1.out ?hv23 ?_; (case hd23 => rfl); (case hgd23 => rfl); (case ho23 => rfl); (case hp23 => rfl); (case hv23 => rfl)) | ((with_reducible refine gate_dst (N := 70) rfl ?_); refine wq_load1 (ty := 3) (p := .tmp 69) (g := g1) (i := 0) (v := ?v24) ?hgd24 ?ho24 ?hp24 Try.underlying3 ?hd24 B1.out ?hv24 ?_; (case hd24 => rfl); (case hgd24 => rfl); (case ho24 => rfl); (case hp24 => rfl); (case hv24 => rfl)) | ((with_reducible refine gate_dst (N := 90) rfl ?_); refine wq_load1 (ty := 3) (p := .tmp 89) (g := g1) (i := 0) (v := ?v25) ?hgd25 ?ho25 ?hp25 Try.underlying3 ?hd25 B1.out ?hv25 ?_; (case hd25 => rfl); (case hgd25 => rfl); (case ho25 => rfl); (case hp25 => rfl); (case hv25 => rfl)) | ((with_reducible refine gate_store (p := 5) rfl ?_); refine wq_store (ty := 30) (p := .tmp 5) (x := .tmp 104) (g := g2) (i := 0) (k := 4) (v := ?v26) (vs := ?vs26) (cs' := ?cs26) ?hgd26 ?hdst26 ?ho26 ?hp26 ?hx26 ?hvc26 ?hi26 ?hk26 ?h126 B2.out ?hsz26 ?hcs26 ?_; (case hi26 => kernel_rfl); (case hgd26 => rfl); (case hdst26 => rfl); (case ho26 => rfl); (case hp26 => rfl); (case hx26 => go_simp; with_reducible rfl); (case hvc26 => simp only [Value.cells]; with_reducible rfl); (case hk26 => rfl); (case h126 => rfl); (case hsz26 => exact Nat.le_of_ble_eq_true rfl); (case hcs26 => simp only [wqPut, List.setIfInBounds_toArray, List.set_cons_succ, List.set_cons_zero, Nat.reduceAdd]; with_reducible rfl); intro zw1_ hb hgr; have n_HB := Aside0.mk (HB.out.grown hgr HB.out.size (fun k hk => by cases hk; exact HGB2.out.2)); have n_B1 := Aside0.mk (wq_blk B1.out hgr HGB2.out.1); have n_B2 := Aside0.mk hb; clear HB B1 B2 hb hgr; have HB := n_HB; have B1 := n_B1; have B2 := n_B2; clear n_HB n_B1 n_B2))
      refine bodyPost_ret (res_tc rfl _ _ _ _ _ _ _ rfl B2.out Try.underlying30 rfl (by kernel_rfl)) rfl ?_
      exact ⟨A0, c0, rfl, HC0.out, Kd.C_below HR0.out HB.out, HB.out, by first | exact .inl rfl | exact .inl ⟨rfl, rfl⟩⟩
def li_tb_del0_lb (n m : Nat) : Array Bool := ((List.range n).map (fun i => m.testBit i)).toArray
def li_tb_del0.T5 : Bool × List (List Nat × List Nat) := (true, [([], []), ([], []), ([0, 1], [0, 1]), ([2], [2]), ([3], [3]), ([], []), ([5], [5]), ([4, 6], [4, 6])])
def li_tb_del0.B5 : List Nat := [0, 0, 3, 7, 15, 0, 32, 127]
theorem li_tb_del0.tab5 : rtab .any (opsOf Try.f10 5) = li_tb_del0.T5 := by kernel_rfl
theorem li_tb_del0.bits5 : waitsOk li_tb_del0.T5.2 li_tb_del0.B5 = true := by kernel_rfl
set_option maxHeartbeats 8000000 in
set_option maxRecDepth 100000 in
theorem li_tb_del0 (A0 : Option Addr) (c0 : Nat) (l : List S53) (kd k v q : Int) (hl : l.length ≤ 1000000) (hs : Rising l) (W : World) (hr0 : Kd.C k53 W A0 l.length l) (hc0 : l.length ≤ c0) (i : Nat) (hi : kix l k = i) (hil : i ≤ l.length) (hk2 : kd = 2) (hth : kthere l k = false) :
    Calls Try.prog 10 #[.slice A0 l.length c0, .agg #[.int .i64 kd, .int .u64 k, .int .u64 v, .int .i64 q]] W fun e w' => ∃ A c, e = .returned (.tuple #[.slice A l.length c, .agg #[.int .i64 0, .bool false, .int .u64 0, .slice none 0 0]]) ∧ l.length ≤ c ∧ Kd.C k53 w' A l.length l ∧ Below W.heap.size W w' ∧ ((A = A0 ∧ l = l) ∨ ∀ ad, A = some ad → W.heap.size ≤ ad.block) := by
  have HR0 := Aside0.mk hr0
  have HC0 := Aside0.mk hc0
  have HL := Aside0.mk hl
  have HSR := Aside0.mk hs
  have HI := Aside0.mk hi
  have HIL := Aside0.mk hil
  have HTH := Aside0.mk hth
  have HB := Aside0.mk (Below.refl W.heap.size W)
  subst hk2
  clear hr0 hc0 hl hs hi hil hth
  go_enter Try.func10, Try.ntmps10
  go_wp2_with (first | ((with_reducible refine gate_dst (N := 3) rfl ?_); refine box_event ?hg27 (N := 3) ?hd27 (cs := #[.int .i64 2, .int .u64 k, .int .u64 v, .int .i64 q]) (t := 25) ?hr27 ?_; (case hd27 => rfl); (case hg27 => rfl); (case hr27 => first | (go_simp; done) | (go_simp; rfl)); intro g1 hg w1_ hbox hbk; have HGB1 := Aside0.mk (show W.heap.size ≤ g1 from by rw [hg]; have := HB.out.size; omega); have n_HB := Aside0.mk (below_step HB.out hbk); clear HB; have HB := n_HB; clear n_HB; have B1 := Aside0.mk hbox; clear hbk hbox hg) | ((with_reducible refine gate_dst (N := 5) rfl ?_); refine box_event ?hg28 (N := 5) ?hd28 (cs := #[.int .i64 0, .bool false, .int .u64 0, .slice none 0 0]) (t := 30) ?hr28 ?_; (case hd28 => rfl); (case hg28 => rfl); (case hr28 => first | (go_simp; done) | (go_simp; rfl)); intro g2 hg w2_ hbox hbk; have HGB2 := Aside0.mk (show g1 ≠ g2 ∧ W.heap.size ≤ g2 from by rw [hg]; have := blk_lt B1.out; have := HB.out.size; omega); have n_HB := Aside0.mk (below_step HB.out hbk); have n_B1 := Aside0.mk (blk_below B1.out hbk); clear HB B1; have HB := n_HB; have B1 := n_B1; clear n_HB n_B1; have B2 := Aside0.mk hbox; clear hbk hbox hg))
  go_loopg [6, 7] l.length (fun kq v6 v7 wr => ∃ (j : Nat) (t : Int), v7 = .int .i64 j ∧ v6 = .int .i64 t ∧ Aside0 (j ≤ l.length) ∧ Aside0 (l.length - j ≤ kq) ∧ Aside0 (AT l k j t) ∧ Aside0 (wr.heap[g1]? = some (.cells #[.int .i64 2, .int .u64 k, .int .u64 v, .int .i64 q] 25 (0, 0))) ∧ Aside0 (wr.heap[g2]? = some (.cells #[.int .i64 0, .bool false, .int .u64 0, .slice none 0 0] 30 (0, 0))) ∧ Aside0 (Below W.heap.size W wr))
  case atStart => exact ⟨0, -1, rfl, rfl, ⟨Nat.zero_le _⟩, ⟨by omega⟩, ⟨AT.zero l k⟩, B1, B2, HB⟩
  case round =>
    clear HB B1 B2
    obtain ⟨j, t, rfl, rfl, HJ, HK, HAT, B1, B2, HB⟩ := hrel
    by_cases hjl : j < l.length
    · have hlt : (j : Int) < (l.length : Int) := by omega
      have HJL := Aside0.mk hjl
      have hj0 : (0 : Int) ≤ (j : Int) := by omega
      have hjb : (j : Int) ≤ 1000000 := by have := HL.out; omega
      obtain ⟨ad, eA, hW0, hW1⟩ := at_T53 HR0.out (j : Int) (by omega) (by omega)
      cases eA
      simp only [Int.toNat_natCast] at hW0 hW1
      clear hjl
      by_cases hc : (rd_T53 l (j : Int)).f0 = k
      · have hcb : ((rd_T53 l (j : Int)).f0 == k) = true := beq_iff_eq.mpr hc
        have HC := Aside0.mk hc
        clear hc
        go_upto_region 5 with fail
        obtain ⟨XB1, hXB1, hb_B1⟩ := wq_name B1.out
        clear B1
        have B1 := Aside0.mk hb_B1
        have HXB1 := Aside0.mk hXB1
        clear hXB1 hb_B1
        have n_HB := Aside0.mk (below_drew1 HB.out)
        have n_B1 := Aside0.mk (blk_drew B1.out)
        have n_B2 := Aside0.mk (blk_drew B2.out)
        clear HB B1 B2
        have HB := n_HB
        have B1 := n_B1
        have B2 := n_B2
        clear n_HB n_B1 n_B2
        refine start_ (n := 8) (S := fun w' => w'.heap[g1]? = some (.cells XB1 25 (0, 0)) ∧ w'.cell? (ad.add (j * 2)) = some (.int .u64 (rd_T53 l (j : Int)).f0)) (ds := []) #[false, false, false, false, false, false, false, false] (by kernel_rfl) rfl rfl ⟨B1.out, (pw_cell_below HB.out hW0)⟩ (fun hHeld => ?_); refine with_tabW li_tb_del0.tab5 li_tb_del0.bits5 (fun HT_ HW_ => ?_)
        generalize wr.drew = pv1_ at HB B1 B2 hHeld ⊢
        refine pure_ (i := 0) (N := some 17) (v := ?_) (a' := ?_) (li_tb_del0_lb 8 1) rfl rfl (any_of HT_.out (by kernel_rfl)) (fun _ _ _ h => h) (Or.inl ⟨by rfl, ?_⟩) ?_ ?_; rotate_left
        · intro w'; go_simp; with_reducible rfl
        rotate_left
        · simp only [Act.put, List.setIfInBounds_toArray, List.set_cons_zero, List.set_cons_succ, i64_w, i32_w]; rfl
        refine pure_ (i := 1) (N := some 18) (v := ?_) (a' := ?_) (li_tb_del0_lb 8 3) rfl rfl (any_of HT_.out (by kernel_rfl)) (fun _ _ _ h => h) (Or.inl ⟨by rfl, ?_⟩) ?_ ?_; rotate_left
        · intro w'; go_simp; with_reducible rfl
        rotate_left
        · simp only [Act.put, List.setIfInBounds_toArray, List.set_cons_zero, List.set_cons_succ, i64_w, i32_w]; rfl
        refine pure_ (i := 2) (N := some 19) (v := ?_) (a' := ?_) (li_tb_del0_lb 8 7) rfl rfl (any_of HT_.out (by kernel_rfl)) (fun _ _ _ h => h) (Or.inl ⟨by rfl, ?_⟩) ?_ ?_; rotate_left
        · intro w'; go_simp; with_reducible rfl
        rotate_left
        · simp only [Act.put, List.setIfInBounds_toArray, List.set_cons_zero, List.set_cons_succ, i64_w, i32_w]; rfl
        refine pure_ (i := 3) (N := some 20) (v := ?_) (a' := ?_) (li_tb_del0_lb 8 15) rfl rfl (any_of HT_.out (by kernel_rfl)) (fun _ _ _ h => h) (Or.inl ⟨by rfl, ?_⟩) ?_ ?_; rotate_left
        · intro w'; go_simp; with_reducible rfl
        rotate_left
        · simp only [Act.put, List.setIfInBounds_toArray, List.set_cons_zero, List.set_cons_succ, i64_w, i32_w]; rfl
        refine pure_ (i := 5) (N := some 22) (v := ?_) (a' := ?_) (li_tb_del0_lb 8 47) rfl rfl (any_of HT_.out (by kernel_rfl)) (fun _ _ _ h => h) (Or.inl ⟨by rfl, ?_⟩) ?_ ?_; rotate_left
        · intro w'; go_simp; with_reducible rfl
        rotate_left
        · simp only [Act.put, List.setIfInBounds_toArray, List.set_cons_zero, List.set_cons_succ, i64_w, i32_w]; rfl
        refine take_ (i := 4) (N := some 21) (v := ?_) (a' := ?_) (li_tb_del0_lb 8 63) rfl rfl (take_ofW HT_.out HW_.out (by kernel_rfl)) (fun _ _ _ h => h) (Or.inl ⟨by rfl, ?_⟩) hHeld ?_ ?_; rotate_left
        · rintro w' ⟨s0, s1⟩; go_simp; with_reducible rfl
        rotate_left
        · simp only [Act.put, List.setIfInBounds_toArray, List.set_cons_zero, List.set_cons_succ, i64_w, i32_w]; rfl
        refine take_ (i := 6) (N := some 23) (v := ?_) (a' := ?_) (li_tb_del0_lb 8 127) rfl rfl (take_ofW HT_.out HW_.out (by kernel_rfl)) (fun _ _ _ h => h) (Or.inl ⟨by rfl, ?_⟩) hHeld ?_ ?_; rotate_left
        · rintro w' ⟨s0, s1⟩; refine Eq.trans (wq_run_load1 (ty := 23) (p := .tmp 22) (g := g1) (i := 1) (v := ?v29) ?ho29 ?hp29 Try.underlying23 ?hd29 s0 ?hv29) ?fin29; (case hd29 => rfl); (case ho29 => rfl); (case hp29 => rfl); (case hv29 => rewrite [HXB1.out]; rfl); (case fin29 => with_reducible rfl)
        rotate_left
        · simp only [Act.put, List.setIfInBounds_toArray, List.set_cons_zero, List.set_cons_succ, i64_w, i32_w]; rfl
        refine pure_ (i := 7) (N := some 24) (v := ?_) (a' := ?_) (li_tb_del0_lb 8 255) rfl rfl (any_of HT_.out (by kernel_rfl)) (fun _ _ _ h => h) (Or.inl ⟨by rfl, ?_⟩) ?_ ?_; rotate_left
        · intro w'; go_simp; with_reducible rfl
        rotate_left
        · simp only [Act.put, List.setIfInBounds_toArray, List.set_cons_zero, List.set_cons_succ, i64_w, i32_w]; rfl
        refine done_ (done_of HT_.out (by kernel_rfl)) ?_
        have hX := HXB1.out
        subst hX
        clear HXB1
        go_wp2
        go_roundg (l.length - (j + 1))
        case measure => have := HJL.out; have := HK.out; omega
        case rel =>
          have hjl := HJL.out
          have hcc := HC.out
          rw [li_rd l j hjl] at hcc
          have hll := HL.out
          exact ⟨j + 1, (j : Int), by first | rfl | (rw [show wrap64 ((j : Int) + 1) = ((j + 1 : Nat) : Int) from by unfold wrap64; omega]), rfl, ⟨hjl⟩, ⟨by omega⟩, ⟨AT.yes hjl hcc⟩, B1, B2, HB⟩
      · have hcb : ((rd_T53 l (j : Int)).f0 == k) = false := beq_eq_false_iff_ne.mpr hc
        have HC := Aside0.mk hc
        clear hc
        go_upto_region 5 with fail
        obtain ⟨XB1, hXB1, hb_B1⟩ := wq_name B1.out
        clear B1
        have B1 := Aside0.mk hb_B1
        have HXB1 := Aside0.mk hXB1
        clear hXB1 hb_B1
        have n_HB := Aside0.mk (below_drew1 HB.out)
        have n_B1 := Aside0.mk (blk_drew B1.out)
        have n_B2 := Aside0.mk (blk_drew B2.out)
        clear HB B1 B2
        have HB := n_HB
        have B1 := n_B1
        have B2 := n_B2
        clear n_HB n_B1 n_B2
        refine start_ (n := 8) (S := fun w' => w'.heap[g1]? = some (.cells XB1 25 (0, 0)) ∧ w'.cell? (ad.add (j * 2)) = some (.int .u64 (rd_T53 l (j : Int)).f0)) (ds := []) #[false, false, false, false, false, false, false, false] (by kernel_rfl) rfl rfl ⟨B1.out, (pw_cell_below HB.out hW0)⟩ (fun hHeld => ?_); refine with_tabW li_tb_del0.tab5 li_tb_del0.bits5 (fun HT_ HW_ => ?_)
        generalize wr.drew = qv1_ at HB B1 B2 hHeld ⊢
        refine pure_ (i := 0) (N := some 17) (v := ?_) (a' := ?_) (li_tb_del0_lb 8 1) rfl rfl (any_of HT_.out (by kernel_rfl)) (fun _ _ _ h => h) (Or.inl ⟨by rfl, ?_⟩) ?_ ?_; rotate_left
        · intro w'; go_simp; with_reducible rfl
        rotate_left
        · simp only [Act.put, List.setIfInBounds_toArray, List.set_cons_zero, List.set_cons_succ, i64_w, i32_w]; rfl
        refine pure_ (i := 1) (N := some 18) (v := ?_) (a' := ?_) (li_tb_del0_lb 8 3) rfl rfl (any_of HT_.out (by kernel_rfl)) (fun _ _ _ h => h) (Or.inl ⟨by rfl, ?_⟩) ?_ ?_; rotate_left
        · intro w'; go_simp; with_reducible rfl
        rotate_left
        · simp only [Act.put, List.setIfInBounds_toArray, List.set_cons_zero, List.set_cons_succ, i64_w, i32_w]; rfl
        refine pure_ (i := 2) (N := some 19) (v := ?_) (a' := ?_) (li_tb_del0_lb 8 7) rfl rfl (any_of HT_.out (by kernel_rfl)) (fun _ _ _ h => h) (Or.inl ⟨by rfl, ?_⟩) ?_ ?_; rotate_left
        · intro w'; go_simp; with_reducible rfl
        rotate_left
        · simp only [Act.put, List.setIfInBounds_toArray, List.set_cons_zero, List.set_cons_succ, i64_w, i32_w]; rfl
        refine pure_ (i := 3) (N := some 20) (v := ?_) (a' := ?_) (li_tb_del0_lb 8 15) rfl rfl (any_of HT_.out (by kernel_rfl)) (fun _ _ _ h => h) (Or.inl ⟨by rfl, ?_⟩) ?_ ?_; rotate_left
        · intro w'; go_simp; with_reducible rfl
        rotate_left
        · simp only [Act.put, List.setIfInBounds_toArray, List.set_cons_zero, List.set_cons_succ, i64_w, i32_w]; rfl
        refine pure_ (i := 5) (N := some 22) (v := ?_) (a' := ?_) (li_tb_del0_lb 8 47) rfl rfl (any_of HT_.out (by kernel_rfl)) (fun _ _ _ h => h) (Or.inl ⟨by rfl, ?_⟩) ?_ ?_; rotate_left
        · intro w'; go_simp; with_reducible rfl
        rotate_left
        · simp only [Act.put, List.setIfInBounds_toArray, List.set_cons_zero, List.set_cons_succ, i64_w, i32_w]; rfl
        refine take_ (i := 4) (N := some 21) (v := ?_) (a' := ?_) (li_tb_del0_lb 8 63) rfl rfl (take_ofW HT_.out HW_.out (by kernel_rfl)) (fun _ _ _ h => h) (Or.inl ⟨by rfl, ?_⟩) hHeld ?_ ?_; rotate_left
        · rintro w' ⟨s0, s1⟩; go_simp; with_reducible rfl
        rotate_left
        · simp only [Act.put, List.setIfInBounds_toArray, List.set_cons_zero, List.set_cons_succ, i64_w, i32_w]; rfl
        refine take_ (i := 6) (N := some 23) (v := ?_) (a' := ?_) (li_tb_del0_lb 8 127) rfl rfl (take_ofW HT_.out HW_.out (by kernel_rfl)) (fun _ _ _ h => h) (Or.inl ⟨by rfl, ?_⟩) hHeld ?_ ?_; rotate_left
        · rintro w' ⟨s0, s1⟩; refine Eq.trans (wq_run_load1 (ty := 23) (p := .tmp 22) (g := g1) (i := 1) (v := ?v30) ?ho30 ?hp30 Try.underlying23 ?hd30 s0 ?hv30) ?fin30; (case hd30 => rfl); (case ho30 => rfl); (case hp30 => rfl); (case hv30 => rewrite [HXB1.out]; rfl); (case fin30 => with_reducible rfl)
        rotate_left
        · simp only [Act.put, List.setIfInBounds_toArray, List.set_cons_zero, List.set_cons_succ, i64_w, i32_w]; rfl
        refine pure_ (i := 7) (N := some 24) (v := ?_) (a' := ?_) (li_tb_del0_lb 8 255) rfl rfl (any_of HT_.out (by kernel_rfl)) (fun _ _ _ h => h) (Or.inl ⟨by rfl, ?_⟩) ?_ ?_; rotate_left
        · intro w'; go_simp; with_reducible rfl
        rotate_left
        · simp only [Act.put, List.setIfInBounds_toArray, List.set_cons_zero, List.set_cons_succ, i64_w, i32_w]; rfl
        refine done_ (done_of HT_.out (by kernel_rfl)) ?_
        have hX := HXB1.out
        subst hX
        clear HXB1
        go_wp2
        go_roundg (l.length - (j + 1))
        case measure => have := HJL.out; have := HK.out; omega
        case rel =>
          have hjl := HJL.out
          have hcc := HC.out
          rw [li_rd l j hjl] at hcc
          have hll := HL.out
          exact ⟨j + 1, t, by first | rfl | (rw [show wrap64 ((j : Int) + 1) = ((j + 1 : Nat) : Int) from by unfold wrap64; omega]), rfl, ⟨hjl⟩, ⟨by omega⟩, ⟨AT.no hjl hcc HAT.out⟩, B1, B2, HB⟩
    · have hnlt : ¬ ((j : Int) < (l.length : Int)) := by omega
      have hjj : j = l.length := by have := HJ.out; omega
      subst hjj
      have ht : t = -1 := AT.none HSR.out HTH.out HAT.out
      subst ht
      have hi0 : (0 : Int) ≤ (i : Int) := by omega
      have hib : (i : Int) ≤ 1000000 := by have := HL.out; have := HIL.out; omega
      have hil2 : (i : Int) ≤ (l.length : Int) := by have := HIL.out; omega
      go_wp2_with (first | ((with_reducible refine gate_dst (N := 27) rfl ?_); refine wq_load1 (ty := 3) (p := .tmp 26) (g := g1) (i := 0) (v := ?v31) ?hgd31 ?ho31 ?hp31 Try.underlying3 ?hd31 B1.out ?hv31 ?_; (case hd31 => rfl); (case hgd31 => rfl); (case ho31 => rfl); (case hp31 => rfl); (case hv31 => rfl)) | ((with_reducible refine gate_dst (N := 70) rfl ?_); refine wq_load1 (ty := 3) (p := .tmp 69) (g := g1) (i := 0) (v := ?v32) ?hgd32 ?ho32 ?hp32 Try.underlying3 ?hd32 B1.out ?hv32 ?_; (case hd32 => rfl); (case hgd32 => rfl); (case ho32 => rfl); (case hp32 => rfl); (case hv32 => rfl)) | ((with_reducible refine gate_dst (N := 90) rfl ?_); refine wq_load1 (ty := 3) (p := .tmp 89) (g := g1) (i := 0) (v := ?v33) ?hgd33 ?ho33 ?hp33 Try.underlying3 ?hd33 B1.out ?hv33 ?_; (case hd33 => rfl); (case hgd33 => rfl); (case ho33 => rfl); (case hp33 => rfl); (case hv33 => rfl)) | ((with_reducible refine gate_store (p := 5) rfl ?_); refine wq_store (ty := 30) (p := .tmp 5) (x := .tmp 104) (g := g2) (i := 0) (k := 4) (v := ?v34) (vs := ?vs34) (cs' := ?cs34) ?hgd34 ?hdst34 ?ho34 ?hp34 ?hx34 ?hvc34 ?hi34 ?hk34 ?h134 B2.out ?hsz34 ?hcs34 ?_; (case hi34 => kernel_rfl); (case hgd34 => rfl); (case hdst34 => rfl); (case ho34 => rfl); (case hp34 => rfl); (case hx34 => go_simp; with_reducible rfl); (case hvc34 => simp only [Value.cells]; with_reducible rfl); (case hk34 => rfl); (case h134 => rfl); (case hsz34 => exact Nat.le_of_ble_eq_true rfl); (case hcs34 => simp only [wqPut, List.setIfInBounds_toArray, List.set_cons_succ, List.set_cons_zero, Nat.reduceAdd]; with_reducible rfl); intro zw1_ hb hgr; have n_HB := Aside0.mk (HB.out.grown hgr HB.out.size (fun k hk => by cases hk; exact HGB2.out.2)); have n_B1 := Aside0.mk (wq_blk B1.out hgr HGB2.out.1); have n_B2 := Aside0.mk hb; clear HB B1 B2 hb hgr; have HB := n_HB; have B1 := n_B1; have B2 := n_B2; clear n_HB n_B1 n_B2))
      refine bodyPost_ret (res_tc rfl _ _ _ _ _ _ _ rfl B2.out Try.underlying30 rfl (by kernel_rfl)) rfl ?_
      exact ⟨A0, c0, rfl, HC0.out, Kd.C_below HR0.out HB.out, HB.out, by first | exact .inl rfl | exact .inl ⟨rfl, rfl⟩⟩
def li_tb_get0_lb (n m : Nat) : Array Bool := ((List.range n).map (fun i => m.testBit i)).toArray
def li_tb_get0.T5 : Bool × List (List Nat × List Nat) := (true, [([], []), ([], []), ([0, 1], [0, 1]), ([2], [2]), ([3], [3]), ([], []), ([5], [5]), ([4, 6], [4, 6])])
def li_tb_get0.B5 : List Nat := [0, 0, 3, 7, 15, 0, 32, 127]
theorem li_tb_get0.tab5 : rtab .any (opsOf Try.f10 5) = li_tb_get0.T5 := by kernel_rfl
theorem li_tb_get0.bits5 : waitsOk li_tb_get0.T5.2 li_tb_get0.B5 = true := by kernel_rfl
set_option maxHeartbeats 8000000 in
set_option maxRecDepth 100000 in
theorem li_tb_get0 (A0 : Option Addr) (c0 : Nat) (l : List S53) (kd k v q : Int) (hl : l.length ≤ 1000000) (hs : Rising l) (W : World) (hr0 : Kd.C k53 W A0 l.length l) (hc0 : l.length ≤ c0) (i : Nat) (hi : kix l k = i) (hil : i ≤ l.length) (hk3 : kd = 3) (hth : kthere l k = false) :
    Calls Try.prog 10 #[.slice A0 l.length c0, .agg #[.int .i64 kd, .int .u64 k, .int .u64 v, .int .i64 q]] W fun e w' => ∃ A c, e = .returned (.tuple #[.slice A l.length c, .agg #[.int .i64 0, .bool false, .int .u64 0, .slice none 0 0]]) ∧ l.length ≤ c ∧ Kd.C k53 w' A l.length l ∧ Below W.heap.size W w' ∧ ((A = A0 ∧ l = l) ∨ ∀ ad, A = some ad → W.heap.size ≤ ad.block) := by
  have HR0 := Aside0.mk hr0
  have HC0 := Aside0.mk hc0
  have HL := Aside0.mk hl
  have HSR := Aside0.mk hs
  have HI := Aside0.mk hi
  have HIL := Aside0.mk hil
  have HTH := Aside0.mk hth
  have HB := Aside0.mk (Below.refl W.heap.size W)
  subst hk3
  clear hr0 hc0 hl hs hi hil hth
  go_enter Try.func10, Try.ntmps10
  go_wp2_with (first | ((with_reducible refine gate_dst (N := 3) rfl ?_); refine box_event ?hg35 (N := 3) ?hd35 (cs := #[.int .i64 3, .int .u64 k, .int .u64 v, .int .i64 q]) (t := 25) ?hr35 ?_; (case hd35 => rfl); (case hg35 => rfl); (case hr35 => first | (go_simp; done) | (go_simp; rfl)); intro g1 hg w1_ hbox hbk; have HGB1 := Aside0.mk (show W.heap.size ≤ g1 from by rw [hg]; have := HB.out.size; omega); have n_HB := Aside0.mk (below_step HB.out hbk); clear HB; have HB := n_HB; clear n_HB; have B1 := Aside0.mk hbox; clear hbk hbox hg) | ((with_reducible refine gate_dst (N := 5) rfl ?_); refine box_event ?hg36 (N := 5) ?hd36 (cs := #[.int .i64 0, .bool false, .int .u64 0, .slice none 0 0]) (t := 30) ?hr36 ?_; (case hd36 => rfl); (case hg36 => rfl); (case hr36 => first | (go_simp; done) | (go_simp; rfl)); intro g2 hg w2_ hbox hbk; have HGB2 := Aside0.mk (show g1 ≠ g2 ∧ W.heap.size ≤ g2 from by rw [hg]; have := blk_lt B1.out; have := HB.out.size; omega); have n_HB := Aside0.mk (below_step HB.out hbk); have n_B1 := Aside0.mk (blk_below B1.out hbk); clear HB B1; have HB := n_HB; have B1 := n_B1; clear n_HB n_B1; have B2 := Aside0.mk hbox; clear hbk hbox hg))
  go_loopg [6, 7] l.length (fun kq v6 v7 wr => ∃ (j : Nat) (t : Int), v7 = .int .i64 j ∧ v6 = .int .i64 t ∧ Aside0 (j ≤ l.length) ∧ Aside0 (l.length - j ≤ kq) ∧ Aside0 (AT l k j t) ∧ Aside0 (wr.heap[g1]? = some (.cells #[.int .i64 3, .int .u64 k, .int .u64 v, .int .i64 q] 25 (0, 0))) ∧ Aside0 (wr.heap[g2]? = some (.cells #[.int .i64 0, .bool false, .int .u64 0, .slice none 0 0] 30 (0, 0))) ∧ Aside0 (Below W.heap.size W wr))
  case atStart => exact ⟨0, -1, rfl, rfl, ⟨Nat.zero_le _⟩, ⟨by omega⟩, ⟨AT.zero l k⟩, B1, B2, HB⟩
  case round =>
    clear HB B1 B2
    obtain ⟨j, t, rfl, rfl, HJ, HK, HAT, B1, B2, HB⟩ := hrel
    by_cases hjl : j < l.length
    · have hlt : (j : Int) < (l.length : Int) := by omega
      have HJL := Aside0.mk hjl
      have hj0 : (0 : Int) ≤ (j : Int) := by omega
      have hjb : (j : Int) ≤ 1000000 := by have := HL.out; omega
      obtain ⟨ad, eA, hW0, hW1⟩ := at_T53 HR0.out (j : Int) (by omega) (by omega)
      cases eA
      simp only [Int.toNat_natCast] at hW0 hW1
      clear hjl
      by_cases hc : (rd_T53 l (j : Int)).f0 = k
      · have hcb : ((rd_T53 l (j : Int)).f0 == k) = true := beq_iff_eq.mpr hc
        have HC := Aside0.mk hc
        clear hc
        go_upto_region 5 with fail
        obtain ⟨XB1, hXB1, hb_B1⟩ := wq_name B1.out
        clear B1
        have B1 := Aside0.mk hb_B1
        have HXB1 := Aside0.mk hXB1
        clear hXB1 hb_B1
        have n_HB := Aside0.mk (below_drew1 HB.out)
        have n_B1 := Aside0.mk (blk_drew B1.out)
        have n_B2 := Aside0.mk (blk_drew B2.out)
        clear HB B1 B2
        have HB := n_HB
        have B1 := n_B1
        have B2 := n_B2
        clear n_HB n_B1 n_B2
        refine start_ (n := 8) (S := fun w' => w'.heap[g1]? = some (.cells XB1 25 (0, 0)) ∧ w'.cell? (ad.add (j * 2)) = some (.int .u64 (rd_T53 l (j : Int)).f0)) (ds := []) #[false, false, false, false, false, false, false, false] (by kernel_rfl) rfl rfl ⟨B1.out, (pw_cell_below HB.out hW0)⟩ (fun hHeld => ?_); refine with_tabW li_tb_get0.tab5 li_tb_get0.bits5 (fun HT_ HW_ => ?_)
        generalize wr.drew = pv1_ at HB B1 B2 hHeld ⊢
        refine pure_ (i := 0) (N := some 17) (v := ?_) (a' := ?_) (li_tb_get0_lb 8 1) rfl rfl (any_of HT_.out (by kernel_rfl)) (fun _ _ _ h => h) (Or.inl ⟨by rfl, ?_⟩) ?_ ?_; rotate_left
        · intro w'; go_simp; with_reducible rfl
        rotate_left
        · simp only [Act.put, List.setIfInBounds_toArray, List.set_cons_zero, List.set_cons_succ, i64_w, i32_w]; rfl
        refine pure_ (i := 1) (N := some 18) (v := ?_) (a' := ?_) (li_tb_get0_lb 8 3) rfl rfl (any_of HT_.out (by kernel_rfl)) (fun _ _ _ h => h) (Or.inl ⟨by rfl, ?_⟩) ?_ ?_; rotate_left
        · intro w'; go_simp; with_reducible rfl
        rotate_left
        · simp only [Act.put, List.setIfInBounds_toArray, List.set_cons_zero, List.set_cons_succ, i64_w, i32_w]; rfl
        refine pure_ (i := 2) (N := some 19) (v := ?_) (a' := ?_) (li_tb_get0_lb 8 7) rfl rfl (any_of HT_.out (by kernel_rfl)) (fun _ _ _ h => h) (Or.inl ⟨by rfl, ?_⟩) ?_ ?_; rotate_left
        · intro w'; go_simp; with_reducible rfl
        rotate_left
        · simp only [Act.put, List.setIfInBounds_toArray, List.set_cons_zero, List.set_cons_succ, i64_w, i32_w]; rfl
        refine pure_ (i := 3) (N := some 20) (v := ?_) (a' := ?_) (li_tb_get0_lb 8 15) rfl rfl (any_of HT_.out (by kernel_rfl)) (fun _ _ _ h => h) (Or.inl ⟨by rfl, ?_⟩) ?_ ?_; rotate_left
        · intro w'; go_simp; with_reducible rfl
        rotate_left
        · simp only [Act.put, List.setIfInBounds_toArray, List.set_cons_zero, List.set_cons_succ, i64_w, i32_w]; rfl
        refine pure_ (i := 5) (N := some 22) (v := ?_) (a' := ?_) (li_tb_get0_lb 8 47) rfl rfl (any_of HT_.out (by kernel_rfl)) (fun _ _ _ h => h) (Or.inl ⟨by rfl, ?_⟩) ?_ ?_; rotate_left
        · intro w'; go_simp; with_reducible rfl
        rotate_left
        · simp only [Act.put, List.setIfInBounds_toArray, List.set_cons_zero, List.set_cons_succ, i64_w, i32_w]; rfl
        refine take_ (i := 4) (N := some 21) (v := ?_) (a' := ?_) (li_tb_get0_lb 8 63) rfl rfl (take_ofW HT_.out HW_.out (by kernel_rfl)) (fun _ _ _ h => h) (Or.inl ⟨by rfl, ?_⟩) hHeld ?_ ?_; rotate_left
        · rintro w' ⟨s0, s1⟩; go_simp; with_reducible rfl
        rotate_left
        · simp only [Act.put, List.setIfInBounds_toArray, List.set_cons_zero, List.set_cons_succ, i64_w, i32_w]; rfl
        refine take_ (i := 6) (N := some 23) (v := ?_) (a' := ?_) (li_tb_get0_lb 8 127) rfl rfl (take_ofW HT_.out HW_.out (by kernel_rfl)) (fun _ _ _ h => h) (Or.inl ⟨by rfl, ?_⟩) hHeld ?_ ?_; rotate_left
        · rintro w' ⟨s0, s1⟩; refine Eq.trans (wq_run_load1 (ty := 23) (p := .tmp 22) (g := g1) (i := 1) (v := ?v37) ?ho37 ?hp37 Try.underlying23 ?hd37 s0 ?hv37) ?fin37; (case hd37 => rfl); (case ho37 => rfl); (case hp37 => rfl); (case hv37 => rewrite [HXB1.out]; rfl); (case fin37 => with_reducible rfl)
        rotate_left
        · simp only [Act.put, List.setIfInBounds_toArray, List.set_cons_zero, List.set_cons_succ, i64_w, i32_w]; rfl
        refine pure_ (i := 7) (N := some 24) (v := ?_) (a' := ?_) (li_tb_get0_lb 8 255) rfl rfl (any_of HT_.out (by kernel_rfl)) (fun _ _ _ h => h) (Or.inl ⟨by rfl, ?_⟩) ?_ ?_; rotate_left
        · intro w'; go_simp; with_reducible rfl
        rotate_left
        · simp only [Act.put, List.setIfInBounds_toArray, List.set_cons_zero, List.set_cons_succ, i64_w, i32_w]; rfl
        refine done_ (done_of HT_.out (by kernel_rfl)) ?_
        have hX := HXB1.out
        subst hX
        clear HXB1
        go_wp2
        go_roundg (l.length - (j + 1))
        case measure => have := HJL.out; have := HK.out; omega
        case rel =>
          have hjl := HJL.out
          have hcc := HC.out
          rw [li_rd l j hjl] at hcc
          have hll := HL.out
          exact ⟨j + 1, (j : Int), by first | rfl | (rw [show wrap64 ((j : Int) + 1) = ((j + 1 : Nat) : Int) from by unfold wrap64; omega]), rfl, ⟨hjl⟩, ⟨by omega⟩, ⟨AT.yes hjl hcc⟩, B1, B2, HB⟩
      · have hcb : ((rd_T53 l (j : Int)).f0 == k) = false := beq_eq_false_iff_ne.mpr hc
        have HC := Aside0.mk hc
        clear hc
        go_upto_region 5 with fail
        obtain ⟨XB1, hXB1, hb_B1⟩ := wq_name B1.out
        clear B1
        have B1 := Aside0.mk hb_B1
        have HXB1 := Aside0.mk hXB1
        clear hXB1 hb_B1
        have n_HB := Aside0.mk (below_drew1 HB.out)
        have n_B1 := Aside0.mk (blk_drew B1.out)
        have n_B2 := Aside0.mk (blk_drew B2.out)
        clear HB B1 B2
        have HB := n_HB
        have B1 := n_B1
        have B2 := n_B2
        clear n_HB n_B1 n_B2
        refine start_ (n := 8) (S := fun w' => w'.heap[g1]? = some (.cells XB1 25 (0, 0)) ∧ w'.cell? (ad.add (j * 2)) = some (.int .u64 (rd_T53 l (j : Int)).f0)) (ds := []) #[false, false, false, false, false, false, false, false] (by kernel_rfl) rfl rfl ⟨B1.out, (pw_cell_below HB.out hW0)⟩ (fun hHeld => ?_); refine with_tabW li_tb_get0.tab5 li_tb_get0.bits5 (fun HT_ HW_ => ?_)
        generalize wr.drew = qv1_ at HB B1 B2 hHeld ⊢
        refine pure_ (i := 0) (N := some 17) (v := ?_) (a' := ?_) (li_tb_get0_lb 8 1) rfl rfl (any_of HT_.out (by kernel_rfl)) (fun _ _ _ h => h) (Or.inl ⟨by rfl, ?_⟩) ?_ ?_; rotate_left
        · intro w'; go_simp; with_reducible rfl
        rotate_left
        · simp only [Act.put, List.setIfInBounds_toArray, List.set_cons_zero, List.set_cons_succ, i64_w, i32_w]; rfl
        refine pure_ (i := 1) (N := some 18) (v := ?_) (a' := ?_) (li_tb_get0_lb 8 3) rfl rfl (any_of HT_.out (by kernel_rfl)) (fun _ _ _ h => h) (Or.inl ⟨by rfl, ?_⟩) ?_ ?_; rotate_left
        · intro w'; go_simp; with_reducible rfl
        rotate_left
        · simp only [Act.put, List.setIfInBounds_toArray, List.set_cons_zero, List.set_cons_succ, i64_w, i32_w]; rfl
        refine pure_ (i := 2) (N := some 19) (v := ?_) (a' := ?_) (li_tb_get0_lb 8 7) rfl rfl (any_of HT_.out (by kernel_rfl)) (fun _ _ _ h => h) (Or.inl ⟨by rfl, ?_⟩) ?_ ?_; rotate_left
        · intro w'; go_simp; with_reducible rfl
        rotate_left
        · simp only [Act.put, List.setIfInBounds_toArray, List.set_cons_zero, List.set_cons_succ, i64_w, i32_w]; rfl
        refine pure_ (i := 3) (N := some 20) (v := ?_) (a' := ?_) (li_tb_get0_lb 8 15) rfl rfl (any_of HT_.out (by kernel_rfl)) (fun _ _ _ h => h) (Or.inl ⟨by rfl, ?_⟩) ?_ ?_; rotate_left
        · intro w'; go_simp; with_reducible rfl
        rotate_left
        · simp only [Act.put, List.setIfInBounds_toArray, List.set_cons_zero, List.set_cons_succ, i64_w, i32_w]; rfl
        refine pure_ (i := 5) (N := some 22) (v := ?_) (a' := ?_) (li_tb_get0_lb 8 47) rfl rfl (any_of HT_.out (by kernel_rfl)) (fun _ _ _ h => h) (Or.inl ⟨by rfl, ?_⟩) ?_ ?_; rotate_left
        · intro w'; go_simp; with_reducible rfl
        rotate_left
        · simp only [Act.put, List.setIfInBounds_toArray, List.set_cons_zero, List.set_cons_succ, i64_w, i32_w]; rfl
        refine take_ (i := 4) (N := some 21) (v := ?_) (a' := ?_) (li_tb_get0_lb 8 63) rfl rfl (take_ofW HT_.out HW_.out (by kernel_rfl)) (fun _ _ _ h => h) (Or.inl ⟨by rfl, ?_⟩) hHeld ?_ ?_; rotate_left
        · rintro w' ⟨s0, s1⟩; go_simp; with_reducible rfl
        rotate_left
        · simp only [Act.put, List.setIfInBounds_toArray, List.set_cons_zero, List.set_cons_succ, i64_w, i32_w]; rfl
        refine take_ (i := 6) (N := some 23) (v := ?_) (a' := ?_) (li_tb_get0_lb 8 127) rfl rfl (take_ofW HT_.out HW_.out (by kernel_rfl)) (fun _ _ _ h => h) (Or.inl ⟨by rfl, ?_⟩) hHeld ?_ ?_; rotate_left
        · rintro w' ⟨s0, s1⟩; refine Eq.trans (wq_run_load1 (ty := 23) (p := .tmp 22) (g := g1) (i := 1) (v := ?v38) ?ho38 ?hp38 Try.underlying23 ?hd38 s0 ?hv38) ?fin38; (case hd38 => rfl); (case ho38 => rfl); (case hp38 => rfl); (case hv38 => rewrite [HXB1.out]; rfl); (case fin38 => with_reducible rfl)
        rotate_left
        · simp only [Act.put, List.setIfInBounds_toArray, List.set_cons_zero, List.set_cons_succ, i64_w, i32_w]; rfl
        refine pure_ (i := 7) (N := some 24) (v := ?_) (a' := ?_) (li_tb_get0_lb 8 255) rfl rfl (any_of HT_.out (by kernel_rfl)) (fun _ _ _ h => h) (Or.inl ⟨by rfl, ?_⟩) ?_ ?_; rotate_left
        · intro w'; go_simp; with_reducible rfl
        rotate_left
        · simp only [Act.put, List.setIfInBounds_toArray, List.set_cons_zero, List.set_cons_succ, i64_w, i32_w]; rfl
        refine done_ (done_of HT_.out (by kernel_rfl)) ?_
        have hX := HXB1.out
        subst hX
        clear HXB1
        go_wp2
        go_roundg (l.length - (j + 1))
        case measure => have := HJL.out; have := HK.out; omega
        case rel =>
          have hjl := HJL.out
          have hcc := HC.out
          rw [li_rd l j hjl] at hcc
          have hll := HL.out
          exact ⟨j + 1, t, by first | rfl | (rw [show wrap64 ((j : Int) + 1) = ((j + 1 : Nat) : Int) from by unfold wrap64; omega]), rfl, ⟨hjl⟩, ⟨by omega⟩, ⟨AT.no hjl hcc HAT.out⟩, B1, B2, HB⟩
    · have hnlt : ¬ ((j : Int) < (l.length : Int)) := by omega
      have hjj : j = l.length := by have := HJ.out; omega
      subst hjj
      have ht : t = -1 := AT.none HSR.out HTH.out HAT.out
      subst ht
      have hi0 : (0 : Int) ≤ (i : Int) := by omega
      have hib : (i : Int) ≤ 1000000 := by have := HL.out; have := HIL.out; omega
      have hil2 : (i : Int) ≤ (l.length : Int) := by have := HIL.out; omega
      go_wp2_with (first | ((with_reducible refine gate_dst (N := 27) rfl ?_); refine wq_load1 (ty := 3) (p := .tmp 26) (g := g1) (i := 0) (v := ?v39) ?hgd39 ?ho39 ?hp39 Try.underlying3 ?hd39 B1.out ?hv39 ?_; (case hd39 => rfl); (case hgd39 => rfl); (case ho39 => rfl); (case hp39 => rfl); (case hv39 => rfl)) | ((with_reducible refine gate_dst (N := 70) rfl ?_); refine wq_load1 (ty := 3) (p := .tmp 69) (g := g1) (i := 0) (v := ?v40) ?hgd40 ?ho40 ?hp40 Try.underlying3 ?hd40 B1.out ?hv40 ?_; (case hd40 => rfl); (case hgd40 => rfl); (case ho40 => rfl); (case hp40 => rfl); (case hv40 => rfl)) | ((with_reducible refine gate_dst (N := 90) rfl ?_); refine wq_load1 (ty := 3) (p := .tmp 89) (g := g1) (i := 0) (v := ?v41) ?hgd41 ?ho41 ?hp41 Try.underlying3 ?hd41 B1.out ?hv41 ?_; (case hd41 => rfl); (case hgd41 => rfl); (case ho41 => rfl); (case hp41 => rfl); (case hv41 => rfl)) | ((with_reducible refine gate_store (p := 5) rfl ?_); refine wq_store (ty := 30) (p := .tmp 5) (x := .tmp 104) (g := g2) (i := 0) (k := 4) (v := ?v42) (vs := ?vs42) (cs' := ?cs42) ?hgd42 ?hdst42 ?ho42 ?hp42 ?hx42 ?hvc42 ?hi42 ?hk42 ?h142 B2.out ?hsz42 ?hcs42 ?_; (case hi42 => kernel_rfl); (case hgd42 => rfl); (case hdst42 => rfl); (case ho42 => rfl); (case hp42 => rfl); (case hx42 => go_simp; with_reducible rfl); (case hvc42 => simp only [Value.cells]; with_reducible rfl); (case hk42 => rfl); (case h142 => rfl); (case hsz42 => exact Nat.le_of_ble_eq_true rfl); (case hcs42 => simp only [wqPut, List.setIfInBounds_toArray, List.set_cons_succ, List.set_cons_zero, Nat.reduceAdd]; with_reducible rfl); intro zw1_ hb hgr; have n_HB := Aside0.mk (HB.out.grown hgr HB.out.size (fun k hk => by cases hk; exact HGB2.out.2)); have n_B1 := Aside0.mk (wq_blk B1.out hgr HGB2.out.1); have n_B2 := Aside0.mk hb; clear HB B1 B2 hb hgr; have HB := n_HB; have B1 := n_B1; have B2 := n_B2; clear n_HB n_B1 n_B2))
      refine bodyPost_ret (res_tc rfl _ _ _ _ _ _ _ rfl B2.out Try.underlying30 rfl (by kernel_rfl)) rfl ?_
      exact ⟨A0, c0, rfl, HC0.out, Kd.C_below HR0.out HB.out, HB.out, by first | exact .inl rfl | exact .inl ⟨rfl, rfl⟩⟩
def li_tb_oth_lb (n m : Nat) : Array Bool := ((List.range n).map (fun i => m.testBit i)).toArray
def li_tb_oth.T5 : Bool × List (List Nat × List Nat) := (true, [([], []), ([], []), ([0, 1], [0, 1]), ([2], [2]), ([3], [3]), ([], []), ([5], [5]), ([4, 6], [4, 6])])
def li_tb_oth.B5 : List Nat := [0, 0, 3, 7, 15, 0, 32, 127]
theorem li_tb_oth.tab5 : rtab .any (opsOf Try.f10 5) = li_tb_oth.T5 := by kernel_rfl
theorem li_tb_oth.bits5 : waitsOk li_tb_oth.T5.2 li_tb_oth.B5 = true := by kernel_rfl
set_option maxHeartbeats 8000000 in
set_option maxRecDepth 100000 in
theorem li_tb_oth (A0 : Option Addr) (c0 : Nat) (l : List S53) (kd k v q : Int) (hl : l.length ≤ 1000000) (hs : Rising l) (W : World) (hr0 : Kd.C k53 W A0 l.length l) (hc0 : l.length ≤ c0) (i : Nat) (hi : kix l k = i) (hil : i ≤ l.length) (hk1 : ¬ kd = 1) (hk2 : ¬ kd = 2) (hk3 : ¬ kd = 3) (hth : kthere l k = true) (hlt : i < l.length) :
    Calls Try.prog 10 #[.slice A0 l.length c0, .agg #[.int .i64 kd, .int .u64 k, .int .u64 v, .int .i64 q]] W fun e w' => ∃ A c, e = .returned (.tuple #[.slice A l.length c, .agg #[.int .i64 0, .bool false, .int .u64 0, .slice none 0 0]]) ∧ l.length ≤ c ∧ Kd.C k53 w' A l.length l ∧ Below W.heap.size W w' ∧ ((A = A0 ∧ l = l) ∨ ∀ ad, A = some ad → W.heap.size ≤ ad.block) := by
  have HR0 := Aside0.mk hr0
  have HC0 := Aside0.mk hc0
  have HL := Aside0.mk hl
  have HSR := Aside0.mk hs
  have HI := Aside0.mk hi
  have HIL := Aside0.mk hil
  have HTH := Aside0.mk hth
  have HB := Aside0.mk (Below.refl W.heap.size W)
  have b1 : (kd == 1) = false := beq_eq_false_iff_ne.mpr hk1
  have b2 : (kd == 2) = false := beq_eq_false_iff_ne.mpr hk2
  have b3 : (kd == 3) = false := beq_eq_false_iff_ne.mpr hk3
  clear hk1 hk2 hk3
  have HLT := Aside0.mk hlt
  clear hr0 hc0 hl hs hi hil hth hlt
  go_enter Try.func10, Try.ntmps10
  go_wp2_with (first | ((with_reducible refine gate_dst (N := 3) rfl ?_); refine box_event ?hg43 (N := 3) ?hd43 (cs := #[.int .i64 kd, .int .u64 k, .int .u64 v, .int .i64 q]) (t := 25) ?hr43 ?_; (case hd43 => rfl); (case hg43 => rfl); (case hr43 => first | (go_simp; done) | (go_simp; rfl)); intro g1 hg w1_ hbox hbk; have HGB1 := Aside0.mk (show W.heap.size ≤ g1 from by rw [hg]; have := HB.out.size; omega); have n_HB := Aside0.mk (below_step HB.out hbk); clear HB; have HB := n_HB; clear n_HB; have B1 := Aside0.mk hbox; clear hbk hbox hg) | ((with_reducible refine gate_dst (N := 5) rfl ?_); refine box_event ?hg44 (N := 5) ?hd44 (cs := #[.int .i64 0, .bool false, .int .u64 0, .slice none 0 0]) (t := 30) ?hr44 ?_; (case hd44 => rfl); (case hg44 => rfl); (case hr44 => first | (go_simp; done) | (go_simp; rfl)); intro g2 hg w2_ hbox hbk; have HGB2 := Aside0.mk (show g1 ≠ g2 ∧ W.heap.size ≤ g2 from by rw [hg]; have := blk_lt B1.out; have := HB.out.size; omega); have n_HB := Aside0.mk (below_step HB.out hbk); have n_B1 := Aside0.mk (blk_below B1.out hbk); clear HB B1; have HB := n_HB; have B1 := n_B1; clear n_HB n_B1; have B2 := Aside0.mk hbox; clear hbk hbox hg))
  go_loopg [6, 7] l.length (fun kq v6 v7 wr => ∃ (j : Nat) (t : Int), v7 = .int .i64 j ∧ v6 = .int .i64 t ∧ Aside0 (j ≤ l.length) ∧ Aside0 (l.length - j ≤ kq) ∧ Aside0 (AT l k j t) ∧ Aside0 (wr.heap[g1]? = some (.cells #[.int .i64 kd, .int .u64 k, .int .u64 v, .int .i64 q] 25 (0, 0))) ∧ Aside0 (wr.heap[g2]? = some (.cells #[.int .i64 0, .bool false, .int .u64 0, .slice none 0 0] 30 (0, 0))) ∧ Aside0 (Below W.heap.size W wr))
  case atStart => exact ⟨0, -1, rfl, rfl, ⟨Nat.zero_le _⟩, ⟨by omega⟩, ⟨AT.zero l k⟩, B1, B2, HB⟩
  case round =>
    clear HB B1 B2
    obtain ⟨j, t, rfl, rfl, HJ, HK, HAT, B1, B2, HB⟩ := hrel
    by_cases hjl : j < l.length
    · have hlt : (j : Int) < (l.length : Int) := by omega
      have HJL := Aside0.mk hjl
      have hj0 : (0 : Int) ≤ (j : Int) := by omega
      have hjb : (j : Int) ≤ 1000000 := by have := HL.out; omega
      obtain ⟨ad, eA, hW0, hW1⟩ := at_T53 HR0.out (j : Int) (by omega) (by omega)
      cases eA
      simp only [Int.toNat_natCast] at hW0 hW1
      clear hjl
      by_cases hc : (rd_T53 l (j : Int)).f0 = k
      · have hcb : ((rd_T53 l (j : Int)).f0 == k) = true := beq_iff_eq.mpr hc
        have HC := Aside0.mk hc
        clear hc
        go_upto_region 5 with fail
        obtain ⟨XB1, hXB1, hb_B1⟩ := wq_name B1.out
        clear B1
        have B1 := Aside0.mk hb_B1
        have HXB1 := Aside0.mk hXB1
        clear hXB1 hb_B1
        have n_HB := Aside0.mk (below_drew1 HB.out)
        have n_B1 := Aside0.mk (blk_drew B1.out)
        have n_B2 := Aside0.mk (blk_drew B2.out)
        clear HB B1 B2
        have HB := n_HB
        have B1 := n_B1
        have B2 := n_B2
        clear n_HB n_B1 n_B2
        refine start_ (n := 8) (S := fun w' => w'.heap[g1]? = some (.cells XB1 25 (0, 0)) ∧ w'.cell? (ad.add (j * 2)) = some (.int .u64 (rd_T53 l (j : Int)).f0)) (ds := []) #[false, false, false, false, false, false, false, false] (by kernel_rfl) rfl rfl ⟨B1.out, (pw_cell_below HB.out hW0)⟩ (fun hHeld => ?_); refine with_tabW li_tb_oth.tab5 li_tb_oth.bits5 (fun HT_ HW_ => ?_)
        generalize wr.drew = pv1_ at HB B1 B2 hHeld ⊢
        refine pure_ (i := 0) (N := some 17) (v := ?_) (a' := ?_) (li_tb_oth_lb 8 1) rfl rfl (any_of HT_.out (by kernel_rfl)) (fun _ _ _ h => h) (Or.inl ⟨by rfl, ?_⟩) ?_ ?_; rotate_left
        · intro w'; go_simp; with_reducible rfl
        rotate_left
        · simp only [Act.put, List.setIfInBounds_toArray, List.set_cons_zero, List.set_cons_succ, i64_w, i32_w]; rfl
        refine pure_ (i := 1) (N := some 18) (v := ?_) (a' := ?_) (li_tb_oth_lb 8 3) rfl rfl (any_of HT_.out (by kernel_rfl)) (fun _ _ _ h => h) (Or.inl ⟨by rfl, ?_⟩) ?_ ?_; rotate_left
        · intro w'; go_simp; with_reducible rfl
        rotate_left
        · simp only [Act.put, List.setIfInBounds_toArray, List.set_cons_zero, List.set_cons_succ, i64_w, i32_w]; rfl
        refine pure_ (i := 2) (N := some 19) (v := ?_) (a' := ?_) (li_tb_oth_lb 8 7) rfl rfl (any_of HT_.out (by kernel_rfl)) (fun _ _ _ h => h) (Or.inl ⟨by rfl, ?_⟩) ?_ ?_; rotate_left
        · intro w'; go_simp; with_reducible rfl
        rotate_left
        · simp only [Act.put, List.setIfInBounds_toArray, List.set_cons_zero, List.set_cons_succ, i64_w, i32_w]; rfl
        refine pure_ (i := 3) (N := some 20) (v := ?_) (a' := ?_) (li_tb_oth_lb 8 15) rfl rfl (any_of HT_.out (by kernel_rfl)) (fun _ _ _ h => h) (Or.inl ⟨by rfl, ?_⟩) ?_ ?_; rotate_left
        · intro w'; go_simp; with_reducible rfl
        rotate_left
        · simp only [Act.put, List.setIfInBounds_toArray, List.set_cons_zero, List.set_cons_succ, i64_w, i32_w]; rfl
        refine pure_ (i := 5) (N := some 22) (v := ?_) (a' := ?_) (li_tb_oth_lb 8 47) rfl rfl (any_of HT_.out (by kernel_rfl)) (fun _ _ _ h => h) (Or.inl ⟨by rfl, ?_⟩) ?_ ?_; rotate_left
        · intro w'; go_simp; with_reducible rfl
        rotate_left
        · simp only [Act.put, List.setIfInBounds_toArray, List.set_cons_zero, List.set_cons_succ, i64_w, i32_w]; rfl
        refine take_ (i := 4) (N := some 21) (v := ?_) (a' := ?_) (li_tb_oth_lb 8 63) rfl rfl (take_ofW HT_.out HW_.out (by kernel_rfl)) (fun _ _ _ h => h) (Or.inl ⟨by rfl, ?_⟩) hHeld ?_ ?_; rotate_left
        · rintro w' ⟨s0, s1⟩; go_simp; with_reducible rfl
        rotate_left
        · simp only [Act.put, List.setIfInBounds_toArray, List.set_cons_zero, List.set_cons_succ, i64_w, i32_w]; rfl
        refine take_ (i := 6) (N := some 23) (v := ?_) (a' := ?_) (li_tb_oth_lb 8 127) rfl rfl (take_ofW HT_.out HW_.out (by kernel_rfl)) (fun _ _ _ h => h) (Or.inl ⟨by rfl, ?_⟩) hHeld ?_ ?_; rotate_left
        · rintro w' ⟨s0, s1⟩; refine Eq.trans (wq_run_load1 (ty := 23) (p := .tmp 22) (g := g1) (i := 1) (v := ?v45) ?ho45 ?hp45 Try.underlying23 ?hd45 s0 ?hv45) ?fin45; (case hd45 => rfl); (case ho45 => rfl); (case hp45 => rfl); (case hv45 => rewrite [HXB1.out]; rfl); (case fin45 => with_reducible rfl)
        rotate_left
        · simp only [Act.put, List.setIfInBounds_toArray, List.set_cons_zero, List.set_cons_succ, i64_w, i32_w]; rfl
        refine pure_ (i := 7) (N := some 24) (v := ?_) (a' := ?_) (li_tb_oth_lb 8 255) rfl rfl (any_of HT_.out (by kernel_rfl)) (fun _ _ _ h => h) (Or.inl ⟨by rfl, ?_⟩) ?_ ?_; rotate_left
        · intro w'; go_simp; with_reducible rfl
        rotate_left
        · simp only [Act.put, List.setIfInBounds_toArray, List.set_cons_zero, List.set_cons_succ, i64_w, i32_w]; rfl
        refine done_ (done_of HT_.out (by kernel_rfl)) ?_
        have hX := HXB1.out
        subst hX
        clear HXB1
        go_wp2
        go_roundg (l.length - (j + 1))
        case measure => have := HJL.out; have := HK.out; omega
        case rel =>
          have hjl := HJL.out
          have hcc := HC.out
          rw [li_rd l j hjl] at hcc
          have hll := HL.out
          exact ⟨j + 1, (j : Int), by first | rfl | (rw [show wrap64 ((j : Int) + 1) = ((j + 1 : Nat) : Int) from by unfold wrap64; omega]), rfl, ⟨hjl⟩, ⟨by omega⟩, ⟨AT.yes hjl hcc⟩, B1, B2, HB⟩
      · have hcb : ((rd_T53 l (j : Int)).f0 == k) = false := beq_eq_false_iff_ne.mpr hc
        have HC := Aside0.mk hc
        clear hc
        go_upto_region 5 with fail
        obtain ⟨XB1, hXB1, hb_B1⟩ := wq_name B1.out
        clear B1
        have B1 := Aside0.mk hb_B1
        have HXB1 := Aside0.mk hXB1
        clear hXB1 hb_B1
        have n_HB := Aside0.mk (below_drew1 HB.out)
        have n_B1 := Aside0.mk (blk_drew B1.out)
        have n_B2 := Aside0.mk (blk_drew B2.out)
        clear HB B1 B2
        have HB := n_HB
        have B1 := n_B1
        have B2 := n_B2
        clear n_HB n_B1 n_B2
        refine start_ (n := 8) (S := fun w' => w'.heap[g1]? = some (.cells XB1 25 (0, 0)) ∧ w'.cell? (ad.add (j * 2)) = some (.int .u64 (rd_T53 l (j : Int)).f0)) (ds := []) #[false, false, false, false, false, false, false, false] (by kernel_rfl) rfl rfl ⟨B1.out, (pw_cell_below HB.out hW0)⟩ (fun hHeld => ?_); refine with_tabW li_tb_oth.tab5 li_tb_oth.bits5 (fun HT_ HW_ => ?_)
        generalize wr.drew = qv1_ at HB B1 B2 hHeld ⊢
        refine pure_ (i := 0) (N := some 17) (v := ?_) (a' := ?_) (li_tb_oth_lb 8 1) rfl rfl (any_of HT_.out (by kernel_rfl)) (fun _ _ _ h => h) (Or.inl ⟨by rfl, ?_⟩) ?_ ?_; rotate_left
        · intro w'; go_simp; with_reducible rfl
        rotate_left
        · simp only [Act.put, List.setIfInBounds_toArray, List.set_cons_zero, List.set_cons_succ, i64_w, i32_w]; rfl
        refine pure_ (i := 1) (N := some 18) (v := ?_) (a' := ?_) (li_tb_oth_lb 8 3) rfl rfl (any_of HT_.out (by kernel_rfl)) (fun _ _ _ h => h) (Or.inl ⟨by rfl, ?_⟩) ?_ ?_; rotate_left
        · intro w'; go_simp; with_reducible rfl
        rotate_left
        · simp only [Act.put, List.setIfInBounds_toArray, List.set_cons_zero, List.set_cons_succ, i64_w, i32_w]; rfl
        refine pure_ (i := 2) (N := some 19) (v := ?_) (a' := ?_) (li_tb_oth_lb 8 7) rfl rfl (any_of HT_.out (by kernel_rfl)) (fun _ _ _ h => h) (Or.inl ⟨by rfl, ?_⟩) ?_ ?_; rotate_left
        · intro w'; go_simp; with_reducible rfl
        rotate_left
        · simp only [Act.put, List.setIfInBounds_toArray, List.set_cons_zero, List.set_cons_succ, i64_w, i32_w]; rfl
        refine pure_ (i := 3) (N := some 20) (v := ?_) (a' := ?_) (li_tb_oth_lb 8 15) rfl rfl (any_of HT_.out (by kernel_rfl)) (fun _ _ _ h => h) (Or.inl ⟨by rfl, ?_⟩) ?_ ?_; rotate_left
        · intro w'; go_simp; with_reducible rfl
        rotate_left
        · simp only [Act.put, List.setIfInBounds_toArray, List.set_cons_zero, List.set_cons_succ, i64_w, i32_w]; rfl
        refine pure_ (i := 5) (N := some 22) (v := ?_) (a' := ?_) (li_tb_oth_lb 8 47) rfl rfl (any_of HT_.out (by kernel_rfl)) (fun _ _ _ h => h) (Or.inl ⟨by rfl, ?_⟩) ?_ ?_; rotate_left
        · intro w'; go_simp; with_reducible rfl
        rotate_left
        · simp only [Act.put, List.setIfInBounds_toArray, List.set_cons_zero, List.set_cons_succ, i64_w, i32_w]; rfl
        refine take_ (i := 4) (N := some 21) (v := ?_) (a' := ?_) (li_tb_oth_lb 8 63) rfl rfl (take_ofW HT_.out HW_.out (by kernel_rfl)) (fun _ _ _ h => h) (Or.inl ⟨by rfl, ?_⟩) hHeld ?_ ?_; rotate_left
        · rintro w' ⟨s0, s1⟩; go_simp; with_reducible rfl
        rotate_left
        · simp only [Act.put, List.setIfInBounds_toArray, List.set_cons_zero, List.set_cons_succ, i64_w, i32_w]; rfl
        refine take_ (i := 6) (N := some 23) (v := ?_) (a' := ?_) (li_tb_oth_lb 8 127) rfl rfl (take_ofW HT_.out HW_.out (by kernel_rfl)) (fun _ _ _ h => h) (Or.inl ⟨by rfl, ?_⟩) hHeld ?_ ?_; rotate_left
        · rintro w' ⟨s0, s1⟩; refine Eq.trans (wq_run_load1 (ty := 23) (p := .tmp 22) (g := g1) (i := 1) (v := ?v46) ?ho46 ?hp46 Try.underlying23 ?hd46 s0 ?hv46) ?fin46; (case hd46 => rfl); (case ho46 => rfl); (case hp46 => rfl); (case hv46 => rewrite [HXB1.out]; rfl); (case fin46 => with_reducible rfl)
        rotate_left
        · simp only [Act.put, List.setIfInBounds_toArray, List.set_cons_zero, List.set_cons_succ, i64_w, i32_w]; rfl
        refine pure_ (i := 7) (N := some 24) (v := ?_) (a' := ?_) (li_tb_oth_lb 8 255) rfl rfl (any_of HT_.out (by kernel_rfl)) (fun _ _ _ h => h) (Or.inl ⟨by rfl, ?_⟩) ?_ ?_; rotate_left
        · intro w'; go_simp; with_reducible rfl
        rotate_left
        · simp only [Act.put, List.setIfInBounds_toArray, List.set_cons_zero, List.set_cons_succ, i64_w, i32_w]; rfl
        refine done_ (done_of HT_.out (by kernel_rfl)) ?_
        have hX := HXB1.out
        subst hX
        clear HXB1
        go_wp2
        go_roundg (l.length - (j + 1))
        case measure => have := HJL.out; have := HK.out; omega
        case rel =>
          have hjl := HJL.out
          have hcc := HC.out
          rw [li_rd l j hjl] at hcc
          have hll := HL.out
          exact ⟨j + 1, t, by first | rfl | (rw [show wrap64 ((j : Int) + 1) = ((j + 1 : Nat) : Int) from by unfold wrap64; omega]), rfl, ⟨hjl⟩, ⟨by omega⟩, ⟨AT.no hjl hcc HAT.out⟩, B1, B2, HB⟩
    · have hnlt : ¬ ((j : Int) < (l.length : Int)) := by omega
      have hjj : j = l.length := by have := HJ.out; omega
      subst hjj
      have ht : t = (i : Int) := by rw [AT.there HSR.out HTH.out HAT.out, HI.out]
      subst ht
      have hi0 : (0 : Int) ≤ (i : Int) := by omega
      have hib : (i : Int) ≤ 1000000 := by have := HL.out; have := HIL.out; omega
      have hil2 : (i : Int) ≤ (l.length : Int) := by have := HIL.out; omega
      go_wp2_with (first | ((with_reducible refine gate_dst (N := 27) rfl ?_); refine wq_load1 (ty := 3) (p := .tmp 26) (g := g1) (i := 0) (v := ?v47) ?hgd47 ?ho47 ?hp47 Try.underlying3 ?hd47 B1.out ?hv47 ?_; (case hd47 => rfl); (case hgd47 => rfl); (case ho47 => rfl); (case hp47 => rfl); (case hv47 => rfl)) | ((with_reducible refine gate_dst (N := 70) rfl ?_); refine wq_load1 (ty := 3) (p := .tmp 69) (g := g1) (i := 0) (v := ?v48) ?hgd48 ?ho48 ?hp48 Try.underlying3 ?hd48 B1.out ?hv48 ?_; (case hd48 => rfl); (case hgd48 => rfl); (case ho48 => rfl); (case hp48 => rfl); (case hv48 => rfl)) | ((with_reducible refine gate_dst (N := 90) rfl ?_); refine wq_load1 (ty := 3) (p := .tmp 89) (g := g1) (i := 0) (v := ?v49) ?hgd49 ?ho49 ?hp49 Try.underlying3 ?hd49 B1.out ?hv49 ?_; (case hd49 => rfl); (case hgd49 => rfl); (case ho49 => rfl); (case hp49 => rfl); (case hv49 => rfl)) | ((with_reducible refine gate_store (p := 5) rfl ?_); refine wq_store (ty := 30) (p := .tmp 5) (x := .tmp 104) (g := g2) (i := 0) (k := 4) (v := ?v50) (vs := ?vs50) (cs' := ?cs50) ?hgd50 ?hdst50 ?ho50 ?hp50 ?hx50 ?hvc50 ?hi50 ?hk50 ?h150 B2.out ?hsz50 ?hcs50 ?_; (case hi50 => kernel_rfl); (case hgd50 => rfl); (case hdst50 => rfl); (case ho50 => rfl); (case hp50 => rfl); (case hx50 => go_simp; with_reducible rfl); (case hvc50 => simp only [Value.cells]; with_reducible rfl); (case hk50 => rfl); (case h150 => rfl); (case hsz50 => exact Nat.le_of_ble_eq_true rfl); (case hcs50 => simp only [wqPut, List.setIfInBounds_toArray, List.set_cons_succ, List.set_cons_zero, Nat.reduceAdd]; with_reducible rfl); intro zw1_ hb hgr; have n_HB := Aside0.mk (HB.out.grown hgr HB.out.size (fun k hk => by cases hk; exact HGB2.out.2)); have n_B1 := Aside0.mk (wq_blk B1.out hgr HGB2.out.1); have n_B2 := Aside0.mk hb; clear HB B1 B2 hb hgr; have HB := n_HB; have B1 := n_B1; have B2 := n_B2; clear n_HB n_B1 n_B2))
      refine bodyPost_ret (res_tc rfl _ _ _ _ _ _ _ rfl B2.out Try.underlying30 rfl (by kernel_rfl)) rfl ?_
      exact ⟨A0, c0, rfl, HC0.out, Kd.C_below HR0.out HB.out, HB.out, by first | exact .inl rfl | exact .inl ⟨rfl, rfl⟩⟩
def li_tb_oth0_lb (n m : Nat) : Array Bool := ((List.range n).map (fun i => m.testBit i)).toArray
def li_tb_oth0.T5 : Bool × List (List Nat × List Nat) := (true, [([], []), ([], []), ([0, 1], [0, 1]), ([2], [2]), ([3], [3]), ([], []), ([5], [5]), ([4, 6], [4, 6])])
def li_tb_oth0.B5 : List Nat := [0, 0, 3, 7, 15, 0, 32, 127]
theorem li_tb_oth0.tab5 : rtab .any (opsOf Try.f10 5) = li_tb_oth0.T5 := by kernel_rfl
theorem li_tb_oth0.bits5 : waitsOk li_tb_oth0.T5.2 li_tb_oth0.B5 = true := by kernel_rfl
set_option maxHeartbeats 8000000 in
set_option maxRecDepth 100000 in
theorem li_tb_oth0 (A0 : Option Addr) (c0 : Nat) (l : List S53) (kd k v q : Int) (hl : l.length ≤ 1000000) (hs : Rising l) (W : World) (hr0 : Kd.C k53 W A0 l.length l) (hc0 : l.length ≤ c0) (i : Nat) (hi : kix l k = i) (hil : i ≤ l.length) (hk1 : ¬ kd = 1) (hk2 : ¬ kd = 2) (hk3 : ¬ kd = 3) (hth : kthere l k = false) :
    Calls Try.prog 10 #[.slice A0 l.length c0, .agg #[.int .i64 kd, .int .u64 k, .int .u64 v, .int .i64 q]] W fun e w' => ∃ A c, e = .returned (.tuple #[.slice A l.length c, .agg #[.int .i64 0, .bool false, .int .u64 0, .slice none 0 0]]) ∧ l.length ≤ c ∧ Kd.C k53 w' A l.length l ∧ Below W.heap.size W w' ∧ ((A = A0 ∧ l = l) ∨ ∀ ad, A = some ad → W.heap.size ≤ ad.block) := by
  have HR0 := Aside0.mk hr0
  have HC0 := Aside0.mk hc0
  have HL := Aside0.mk hl
  have HSR := Aside0.mk hs
  have HI := Aside0.mk hi
  have HIL := Aside0.mk hil
  have HTH := Aside0.mk hth
  have HB := Aside0.mk (Below.refl W.heap.size W)
  have b1 : (kd == 1) = false := beq_eq_false_iff_ne.mpr hk1
  have b2 : (kd == 2) = false := beq_eq_false_iff_ne.mpr hk2
  have b3 : (kd == 3) = false := beq_eq_false_iff_ne.mpr hk3
  clear hk1 hk2 hk3
  clear hr0 hc0 hl hs hi hil hth
  go_enter Try.func10, Try.ntmps10
  go_wp2_with (first | ((with_reducible refine gate_dst (N := 3) rfl ?_); refine box_event ?hg51 (N := 3) ?hd51 (cs := #[.int .i64 kd, .int .u64 k, .int .u64 v, .int .i64 q]) (t := 25) ?hr51 ?_; (case hd51 => rfl); (case hg51 => rfl); (case hr51 => first | (go_simp; done) | (go_simp; rfl)); intro g1 hg w1_ hbox hbk; have HGB1 := Aside0.mk (show W.heap.size ≤ g1 from by rw [hg]; have := HB.out.size; omega); have n_HB := Aside0.mk (below_step HB.out hbk); clear HB; have HB := n_HB; clear n_HB; have B1 := Aside0.mk hbox; clear hbk hbox hg) | ((with_reducible refine gate_dst (N := 5) rfl ?_); refine box_event ?hg52 (N := 5) ?hd52 (cs := #[.int .i64 0, .bool false, .int .u64 0, .slice none 0 0]) (t := 30) ?hr52 ?_; (case hd52 => rfl); (case hg52 => rfl); (case hr52 => first | (go_simp; done) | (go_simp; rfl)); intro g2 hg w2_ hbox hbk; have HGB2 := Aside0.mk (show g1 ≠ g2 ∧ W.heap.size ≤ g2 from by rw [hg]; have := blk_lt B1.out; have := HB.out.size; omega); have n_HB := Aside0.mk (below_step HB.out hbk); have n_B1 := Aside0.mk (blk_below B1.out hbk); clear HB B1; have HB := n_HB; have B1 := n_B1; clear n_HB n_B1; have B2 := Aside0.mk hbox; clear hbk hbox hg))
  go_loopg [6, 7] l.length (fun kq v6 v7 wr => ∃ (j : Nat) (t : Int), v7 = .int .i64 j ∧ v6 = .int .i64 t ∧ Aside0 (j ≤ l.length) ∧ Aside0 (l.length - j ≤ kq) ∧ Aside0 (AT l k j t) ∧ Aside0 (wr.heap[g1]? = some (.cells #[.int .i64 kd, .int .u64 k, .int .u64 v, .int .i64 q] 25 (0, 0))) ∧ Aside0 (wr.heap[g2]? = some (.cells #[.int .i64 0, .bool false, .int .u64 0, .slice none 0 0] 30 (0, 0))) ∧ Aside0 (Below W.heap.size W wr))
  case atStart => exact ⟨0, -1, rfl, rfl, ⟨Nat.zero_le _⟩, ⟨by omega⟩, ⟨AT.zero l k⟩, B1, B2, HB⟩
  case round =>
    clear HB B1 B2
    obtain ⟨j, t, rfl, rfl, HJ, HK, HAT, B1, B2, HB⟩ := hrel
    by_cases hjl : j < l.length
    · have hlt : (j : Int) < (l.length : Int) := by omega
      have HJL := Aside0.mk hjl
      have hj0 : (0 : Int) ≤ (j : Int) := by omega
      have hjb : (j : Int) ≤ 1000000 := by have := HL.out; omega
      obtain ⟨ad, eA, hW0, hW1⟩ := at_T53 HR0.out (j : Int) (by omega) (by omega)
      cases eA
      simp only [Int.toNat_natCast] at hW0 hW1
      clear hjl
      by_cases hc : (rd_T53 l (j : Int)).f0 = k
      · have hcb : ((rd_T53 l (j : Int)).f0 == k) = true := beq_iff_eq.mpr hc
        have HC := Aside0.mk hc
        clear hc
        go_upto_region 5 with fail
        obtain ⟨XB1, hXB1, hb_B1⟩ := wq_name B1.out
        clear B1
        have B1 := Aside0.mk hb_B1
        have HXB1 := Aside0.mk hXB1
        clear hXB1 hb_B1
        have n_HB := Aside0.mk (below_drew1 HB.out)
        have n_B1 := Aside0.mk (blk_drew B1.out)
        have n_B2 := Aside0.mk (blk_drew B2.out)
        clear HB B1 B2
        have HB := n_HB
        have B1 := n_B1
        have B2 := n_B2
        clear n_HB n_B1 n_B2
        refine start_ (n := 8) (S := fun w' => w'.heap[g1]? = some (.cells XB1 25 (0, 0)) ∧ w'.cell? (ad.add (j * 2)) = some (.int .u64 (rd_T53 l (j : Int)).f0)) (ds := []) #[false, false, false, false, false, false, false, false] (by kernel_rfl) rfl rfl ⟨B1.out, (pw_cell_below HB.out hW0)⟩ (fun hHeld => ?_); refine with_tabW li_tb_oth0.tab5 li_tb_oth0.bits5 (fun HT_ HW_ => ?_)
        generalize wr.drew = pv1_ at HB B1 B2 hHeld ⊢
        refine pure_ (i := 0) (N := some 17) (v := ?_) (a' := ?_) (li_tb_oth0_lb 8 1) rfl rfl (any_of HT_.out (by kernel_rfl)) (fun _ _ _ h => h) (Or.inl ⟨by rfl, ?_⟩) ?_ ?_; rotate_left
        · intro w'; go_simp; with_reducible rfl
        rotate_left
        · simp only [Act.put, List.setIfInBounds_toArray, List.set_cons_zero, List.set_cons_succ, i64_w, i32_w]; rfl
        refine pure_ (i := 1) (N := some 18) (v := ?_) (a' := ?_) (li_tb_oth0_lb 8 3) rfl rfl (any_of HT_.out (by kernel_rfl)) (fun _ _ _ h => h) (Or.inl ⟨by rfl, ?_⟩) ?_ ?_; rotate_left
        · intro w'; go_simp; with_reducible rfl
        rotate_left
        · simp only [Act.put, List.setIfInBounds_toArray, List.set_cons_zero, List.set_cons_succ, i64_w, i32_w]; rfl
        refine pure_ (i := 2) (N := some 19) (v := ?_) (a' := ?_) (li_tb_oth0_lb 8 7) rfl rfl (any_of HT_.out (by kernel_rfl)) (fun _ _ _ h => h) (Or.inl ⟨by rfl, ?_⟩) ?_ ?_; rotate_left
        · intro w'; go_simp; with_reducible rfl
        rotate_left
        · simp only [Act.put, List.setIfInBounds_toArray, List.set_cons_zero, List.set_cons_succ, i64_w, i32_w]; rfl
        refine pure_ (i := 3) (N := some 20) (v := ?_) (a' := ?_) (li_tb_oth0_lb 8 15) rfl rfl (any_of HT_.out (by kernel_rfl)) (fun _ _ _ h => h) (Or.inl ⟨by rfl, ?_⟩) ?_ ?_; rotate_left
        · intro w'; go_simp; with_reducible rfl
        rotate_left
        · simp only [Act.put, List.setIfInBounds_toArray, List.set_cons_zero, List.set_cons_succ, i64_w, i32_w]; rfl
        refine pure_ (i := 5) (N := some 22) (v := ?_) (a' := ?_) (li_tb_oth0_lb 8 47) rfl rfl (any_of HT_.out (by kernel_rfl)) (fun _ _ _ h => h) (Or.inl ⟨by rfl, ?_⟩) ?_ ?_; rotate_left
        · intro w'; go_simp; with_reducible rfl
        rotate_left
        · simp only [Act.put, List.setIfInBounds_toArray, List.set_cons_zero, List.set_cons_succ, i64_w, i32_w]; rfl
        refine take_ (i := 4) (N := some 21) (v := ?_) (a' := ?_) (li_tb_oth0_lb 8 63) rfl rfl (take_ofW HT_.out HW_.out (by kernel_rfl)) (fun _ _ _ h => h) (Or.inl ⟨by rfl, ?_⟩) hHeld ?_ ?_; rotate_left
        · rintro w' ⟨s0, s1⟩; go_simp; with_reducible rfl
        rotate_left
        · simp only [Act.put, List.setIfInBounds_toArray, List.set_cons_zero, List.set_cons_succ, i64_w, i32_w]; rfl
        refine take_ (i := 6) (N := some 23) (v := ?_) (a' := ?_) (li_tb_oth0_lb 8 127) rfl rfl (take_ofW HT_.out HW_.out (by kernel_rfl)) (fun _ _ _ h => h) (Or.inl ⟨by rfl, ?_⟩) hHeld ?_ ?_; rotate_left
        · rintro w' ⟨s0, s1⟩; refine Eq.trans (wq_run_load1 (ty := 23) (p := .tmp 22) (g := g1) (i := 1) (v := ?v53) ?ho53 ?hp53 Try.underlying23 ?hd53 s0 ?hv53) ?fin53; (case hd53 => rfl); (case ho53 => rfl); (case hp53 => rfl); (case hv53 => rewrite [HXB1.out]; rfl); (case fin53 => with_reducible rfl)
        rotate_left
        · simp only [Act.put, List.setIfInBounds_toArray, List.set_cons_zero, List.set_cons_succ, i64_w, i32_w]; rfl
        refine pure_ (i := 7) (N := some 24) (v := ?_) (a' := ?_) (li_tb_oth0_lb 8 255) rfl rfl (any_of HT_.out (by kernel_rfl)) (fun _ _ _ h => h) (Or.inl ⟨by rfl, ?_⟩) ?_ ?_; rotate_left
        · intro w'; go_simp; with_reducible rfl
        rotate_left
        · simp only [Act.put, List.setIfInBounds_toArray, List.set_cons_zero, List.set_cons_succ, i64_w, i32_w]; rfl
        refine done_ (done_of HT_.out (by kernel_rfl)) ?_
        have hX := HXB1.out
        subst hX
        clear HXB1
        go_wp2
        go_roundg (l.length - (j + 1))
        case measure => have := HJL.out; have := HK.out; omega
        case rel =>
          have hjl := HJL.out
          have hcc := HC.out
          rw [li_rd l j hjl] at hcc
          have hll := HL.out
          exact ⟨j + 1, (j : Int), by first | rfl | (rw [show wrap64 ((j : Int) + 1) = ((j + 1 : Nat) : Int) from by unfold wrap64; omega]), rfl, ⟨hjl⟩, ⟨by omega⟩, ⟨AT.yes hjl hcc⟩, B1, B2, HB⟩
      · have hcb : ((rd_T53 l (j : Int)).f0 == k) = false := beq_eq_false_iff_ne.mpr hc
        have HC := Aside0.mk hc
        clear hc
        go_upto_region 5 with fail
        obtain ⟨XB1, hXB1, hb_B1⟩ := wq_name B1.out
        clear B1
        have B1 := Aside0.mk hb_B1
        have HXB1 := Aside0.mk hXB1
        clear hXB1 hb_B1
        have n_HB := Aside0.mk (below_drew1 HB.out)
        have n_B1 := Aside0.mk (blk_drew B1.out)
        have n_B2 := Aside0.mk (blk_drew B2.out)
        clear HB B1 B2
        have HB := n_HB
        have B1 := n_B1
        have B2 := n_B2
        clear n_HB n_B1 n_B2
        refine start_ (n := 8) (S := fun w' => w'.heap[g1]? = some (.cells XB1 25 (0, 0)) ∧ w'.cell? (ad.add (j * 2)) = some (.int .u64 (rd_T53 l (j : Int)).f0)) (ds := []) #[false, false, false, false, false, false, false, false] (by kernel_rfl) rfl rfl ⟨B1.out, (pw_cell_below HB.out hW0)⟩ (fun hHeld => ?_); refine with_tabW li_tb_oth0.tab5 li_tb_oth0.bits5 (fun HT_ HW_ => ?_)
        generalize wr.drew = qv1_ at HB B1 B2 hHeld ⊢
        refine pure_ (i := 0) (N := some 17) (v := ?_) (a' := ?_) (li_tb_oth0_lb 8 1) rfl rfl (any_of HT_.out (by kernel_rfl)) (fun _ _ _ h => h) (Or.inl ⟨by rfl, ?_⟩) ?_ ?_; rotate_left
        · intro w'; go_simp; with_reducible rfl
        rotate_left
        · simp only [Act.put, List.setIfInBounds_toArray, List.set_cons_zero, List.set_cons_succ, i64_w, i32_w]; rfl
        refine pure_ (i := 1) (N := some 18) (v := ?_) (a' := ?_) (li_tb_oth0_lb 8 3) rfl rfl (any_of HT_.out (by kernel_rfl)) (fun _ _ _ h => h) (Or.inl ⟨by rfl, ?_⟩) ?_ ?_; rotate_left
        · intro w'; go_simp; with_reducible rfl
        rotate_left
        · simp only [Act.put, List.setIfInBounds_toArray, List.set_cons_zero, List.set_cons_succ, i64_w, i32_w]; rfl
        refine pure_ (i := 2) (N := some 19) (v := ?_) (a' := ?_) (li_tb_oth0_lb 8 7) rfl rfl (any_of HT_.out (by kernel_rfl)) (fun _ _ _ h => h) (Or.inl ⟨by rfl, ?_⟩) ?_ ?_; rotate_left
        · intro w'; go_simp; with_reducible rfl
        rotate_left
        · simp only [Act.put, List.setIfInBounds_toArray, List.set_cons_zero, List.set_cons_succ, i64_w, i32_w]; rfl
        refine pure_ (i := 3) (N := some 20) (v := ?_) (a' := ?_) (li_tb_oth0_lb 8 15) rfl rfl (any_of HT_.out (by kernel_rfl)) (fun _ _ _ h => h) (Or.inl ⟨by rfl, ?_⟩) ?_ ?_; rotate_left
        · intro w'; go_simp; with_reducible rfl
        rotate_left
        · simp only [Act.put, List.setIfInBounds_toArray, List.set_cons_zero, List.set_cons_succ, i64_w, i32_w]; rfl
        refine pure_ (i := 5) (N := some 22) (v := ?_) (a' := ?_) (li_tb_oth0_lb 8 47) rfl rfl (any_of HT_.out (by kernel_rfl)) (fun _ _ _ h => h) (Or.inl ⟨by rfl, ?_⟩) ?_ ?_; rotate_left
        · intro w'; go_simp; with_reducible rfl
        rotate_left
        · simp only [Act.put, List.setIfInBounds_toArray, List.set_cons_zero, List.set_cons_succ, i64_w, i32_w]; rfl
        refine take_ (i := 4) (N := some 21) (v := ?_) (a' := ?_) (li_tb_oth0_lb 8 63) rfl rfl (take_ofW HT_.out HW_.out (by kernel_rfl)) (fun _ _ _ h => h) (Or.inl ⟨by rfl, ?_⟩) hHeld ?_ ?_; rotate_left
        · rintro w' ⟨s0, s1⟩; go_simp; with_reducible rfl
        rotate_left
        · simp only [Act.put, List.setIfInBounds_toArray, List.set_cons_zero, List.set_cons_succ, i64_w, i32_w]; rfl
        refine take_ (i := 6) (N := some 23) (v := ?_) (a' := ?_) (li_tb_oth0_lb 8 127) rfl rfl (take_ofW HT_.out HW_.out (by kernel_rfl)) (fun _ _ _ h => h) (Or.inl ⟨by rfl, ?_⟩) hHeld ?_ ?_; rotate_left
        · rintro w' ⟨s0, s1⟩; refine Eq.trans (wq_run_load1 (ty := 23) (p := .tmp 22) (g := g1) (i := 1) (v := ?v54) ?ho54 ?hp54 Try.underlying23 ?hd54 s0 ?hv54) ?fin54; (case hd54 => rfl); (case ho54 => rfl); (case hp54 => rfl); (case hv54 => rewrite [HXB1.out]; rfl); (case fin54 => with_reducible rfl)
        rotate_left
        · simp only [Act.put, List.setIfInBounds_toArray, List.set_cons_zero, List.set_cons_succ, i64_w, i32_w]; rfl
        refine pure_ (i := 7) (N := some 24) (v := ?_) (a' := ?_) (li_tb_oth0_lb 8 255) rfl rfl (any_of HT_.out (by kernel_rfl)) (fun _ _ _ h => h) (Or.inl ⟨by rfl, ?_⟩) ?_ ?_; rotate_left
        · intro w'; go_simp; with_reducible rfl
        rotate_left
        · simp only [Act.put, List.setIfInBounds_toArray, List.set_cons_zero, List.set_cons_succ, i64_w, i32_w]; rfl
        refine done_ (done_of HT_.out (by kernel_rfl)) ?_
        have hX := HXB1.out
        subst hX
        clear HXB1
        go_wp2
        go_roundg (l.length - (j + 1))
        case measure => have := HJL.out; have := HK.out; omega
        case rel =>
          have hjl := HJL.out
          have hcc := HC.out
          rw [li_rd l j hjl] at hcc
          have hll := HL.out
          exact ⟨j + 1, t, by first | rfl | (rw [show wrap64 ((j : Int) + 1) = ((j + 1 : Nat) : Int) from by unfold wrap64; omega]), rfl, ⟨hjl⟩, ⟨by omega⟩, ⟨AT.no hjl hcc HAT.out⟩, B1, B2, HB⟩
    · have hnlt : ¬ ((j : Int) < (l.length : Int)) := by omega
      have hjj : j = l.length := by have := HJ.out; omega
      subst hjj
      have ht : t = -1 := AT.none HSR.out HTH.out HAT.out
      subst ht
      have hi0 : (0 : Int) ≤ (i : Int) := by omega
      have hib : (i : Int) ≤ 1000000 := by have := HL.out; have := HIL.out; omega
      have hil2 : (i : Int) ≤ (l.length : Int) := by have := HIL.out; omega
      go_wp2_with (first | ((with_reducible refine gate_dst (N := 27) rfl ?_); refine wq_load1 (ty := 3) (p := .tmp 26) (g := g1) (i := 0) (v := ?v55) ?hgd55 ?ho55 ?hp55 Try.underlying3 ?hd55 B1.out ?hv55 ?_; (case hd55 => rfl); (case hgd55 => rfl); (case ho55 => rfl); (case hp55 => rfl); (case hv55 => rfl)) | ((with_reducible refine gate_dst (N := 70) rfl ?_); refine wq_load1 (ty := 3) (p := .tmp 69) (g := g1) (i := 0) (v := ?v56) ?hgd56 ?ho56 ?hp56 Try.underlying3 ?hd56 B1.out ?hv56 ?_; (case hd56 => rfl); (case hgd56 => rfl); (case ho56 => rfl); (case hp56 => rfl); (case hv56 => rfl)) | ((with_reducible refine gate_dst (N := 90) rfl ?_); refine wq_load1 (ty := 3) (p := .tmp 89) (g := g1) (i := 0) (v := ?v57) ?hgd57 ?ho57 ?hp57 Try.underlying3 ?hd57 B1.out ?hv57 ?_; (case hd57 => rfl); (case hgd57 => rfl); (case ho57 => rfl); (case hp57 => rfl); (case hv57 => rfl)) | ((with_reducible refine gate_store (p := 5) rfl ?_); refine wq_store (ty := 30) (p := .tmp 5) (x := .tmp 104) (g := g2) (i := 0) (k := 4) (v := ?v58) (vs := ?vs58) (cs' := ?cs58) ?hgd58 ?hdst58 ?ho58 ?hp58 ?hx58 ?hvc58 ?hi58 ?hk58 ?h158 B2.out ?hsz58 ?hcs58 ?_; (case hi58 => kernel_rfl); (case hgd58 => rfl); (case hdst58 => rfl); (case ho58 => rfl); (case hp58 => rfl); (case hx58 => go_simp; with_reducible rfl); (case hvc58 => simp only [Value.cells]; with_reducible rfl); (case hk58 => rfl); (case h158 => rfl); (case hsz58 => exact Nat.le_of_ble_eq_true rfl); (case hcs58 => simp only [wqPut, List.setIfInBounds_toArray, List.set_cons_succ, List.set_cons_zero, Nat.reduceAdd]; with_reducible rfl); intro zw1_ hb hgr; have n_HB := Aside0.mk (HB.out.grown hgr HB.out.size (fun k hk => by cases hk; exact HGB2.out.2)); have n_B1 := Aside0.mk (wq_blk B1.out hgr HGB2.out.1); have n_B2 := Aside0.mk hb; clear HB B1 B2 hb hgr; have HB := n_HB; have B1 := n_B1; have B2 := n_B2; clear n_HB n_B1 n_B2))
      refine bodyPost_ret (res_tc rfl _ _ _ _ _ _ _ rfl B2.out Try.underlying30 rfl (by kernel_rfl)) rfl ?_
      exact ⟨A0, c0, rfl, HC0.out, Kd.C_below HR0.out HB.out, HB.out, by first | exact .inl rfl | exact .inl ⟨rfl, rfl⟩⟩

def li_tb_ins_lb (n m : Nat) : Array Bool := ((List.range n).map (fun i => m.testBit i)).toArray
def li_tb_ins.T5 : Bool × List (List Nat × List Nat) := (true, [([], []), ([], []), ([0, 1], [0, 1]), ([2], [2]), ([3], [3]), ([], []), ([5], [5]), ([4, 6], [4, 6])])
def li_tb_ins.B5 : List Nat := [0, 0, 3, 7, 15, 0, 32, 127]
theorem li_tb_ins.tab5 : rtab .any (opsOf Try.f10 5) = li_tb_ins.T5 := by kernel_rfl
theorem li_tb_ins.bits5 : waitsOk li_tb_ins.T5.2 li_tb_ins.B5 = true := by kernel_rfl
def li_tb_ins.T9 : Bool × List (List Nat × List Nat) := (true, [([], []), ([], []), ([1], [1]), ([0, 2], [0, 2]), ([3], [3]), ([4], [4]), ([4], [4]), ([5, 6, 4], [4, 5, 6]), ([7, 4], [4, 7]), ([8, 4], [4, 8]), ([4], [4]), ([10, 4], [4, 10]), ([9, 11, 4], [4, 9, 11]), ([4, 12], [4, 12])])
def li_tb_ins.B9 : List Nat := [0, 0, 2, 7, 15, 31, 31, 127, 255, 511, 31, 1055, 4095, 8191]
theorem li_tb_ins.tab9 : rtab .any (opsOf Try.f10 9) = li_tb_ins.T9 := by kernel_rfl
theorem li_tb_ins.bits9 : waitsOk li_tb_ins.T9.2 li_tb_ins.B9 = true := by kernel_rfl
set_option maxHeartbeats 8000000 in
set_option maxRecDepth 100000 in
theorem li_tb_ins (A0 : Option Addr) (c0 : Nat) (l : List S53) (kd k v q : Int) (hl : l.length ≤ 1000000) (hs : Rising l) (W : World) (hr0 : Kd.C k53 W A0 l.length l) (hc0 : l.length ≤ c0) (i : Nat) (hi : kix l k = i) (hil : i ≤ l.length) (hk1 : kd = 1) (hth : kthere l k = false) (ad : Addr) (hA : A0 = some ad) :
    Calls Try.prog 10 #[.slice A0 l.length c0, .agg #[.int .i64 kd, .int .u64 k, .int .u64 v, .int .i64 q]] W fun e w' => ∃ A c, e = .returned (.tuple #[.slice A (insl l i ⟨k, v⟩).length c, .agg #[.int .i64 0, .bool true, .int .u64 0, .slice none 0 0]]) ∧ (insl l i ⟨k, v⟩).length ≤ c ∧ Kd.C k53 w' A (insl l i ⟨k, v⟩).length (insl l i ⟨k, v⟩) ∧ Below W.heap.size W w' ∧ ((A = A0 ∧ (insl l i ⟨k, v⟩) = l) ∨ ∀ ad, A = some ad → W.heap.size ≤ ad.block) := by
  have HR0 := Aside0.mk hr0
  have HC0 := Aside0.mk hc0
  have HL := Aside0.mk hl
  have HSR := Aside0.mk hs
  have HI := Aside0.mk hi
  have HIL := Aside0.mk hil
  have HTH := Aside0.mk hth
  have HB := Aside0.mk (Below.refl W.heap.size W)
  subst hA
  subst hk1
  clear hr0 hc0 hl hs hi hil hth
  go_enter Try.func10, Try.ntmps10
  go_wp2_with (first | ((with_reducible refine gate_dst (N := 3) rfl ?_); refine box_event ?hg1 (N := 3) ?hd1 (cs := #[.int .i64 1, .int .u64 k, .int .u64 v, .int .i64 q]) (t := 25) ?hr1 ?_; (case hd1 => rfl); (case hg1 => rfl); (case hr1 => first | (go_simp; done) | (go_simp; rfl)); intro g1 hg w1_ hbox hbk; have HGB1 := Aside0.mk (show W.heap.size ≤ g1 from by rw [hg]; have := HB.out.size; omega); have n_HB := Aside0.mk (below_step HB.out hbk); clear HB; have HB := n_HB; clear n_HB; have B1 := Aside0.mk hbox; clear hbk hbox hg) | ((with_reducible refine gate_dst (N := 5) rfl ?_); refine box_event ?hg2 (N := 5) ?hd2 (cs := #[.int .i64 0, .bool false, .int .u64 0, .slice none 0 0]) (t := 30) ?hr2 ?_; (case hd2 => rfl); (case hg2 => rfl); (case hr2 => first | (go_simp; done) | (go_simp; rfl)); intro g2 hg w2_ hbox hbk; have HGB2 := Aside0.mk (show g1 ≠ g2 ∧ W.heap.size ≤ g2 from by rw [hg]; have := blk_lt B1.out; have := HB.out.size; omega); have n_HB := Aside0.mk (below_step HB.out hbk); have n_B1 := Aside0.mk (blk_below B1.out hbk); clear HB B1; have HB := n_HB; have B1 := n_B1; clear n_HB n_B1; have B2 := Aside0.mk hbox; clear hbk hbox hg))
  go_loopg [6, 7] l.length (fun kq v6 v7 wr => ∃ (j : Nat) (t : Int), v7 = .int .i64 j ∧ v6 = .int .i64 t ∧ Aside0 (j ≤ l.length) ∧ Aside0 (l.length - j ≤ kq) ∧ Aside0 (AT l k j t) ∧ Aside0 (wr.heap[g1]? = some (.cells #[.int .i64 1, .int .u64 k, .int .u64 v, .int .i64 q] 25 (0, 0))) ∧ Aside0 (wr.heap[g2]? = some (.cells #[.int .i64 0, .bool false, .int .u64 0, .slice none 0 0] 30 (0, 0))) ∧ Aside0 (Below W.heap.size W wr))
  case atStart => exact ⟨0, -1, rfl, rfl, ⟨Nat.zero_le _⟩, ⟨by omega⟩, ⟨AT.zero l k⟩, B1, B2, HB⟩
  case round =>
    clear HB B1 B2
    obtain ⟨j, t, rfl, rfl, HJ, HK, HAT, B1, B2, HB⟩ := hrel
    by_cases hjl : j < l.length
    · have hlt : (j : Int) < (l.length : Int) := by omega
      have HJL := Aside0.mk hjl
      have hj0 : (0 : Int) ≤ (j : Int) := by omega
      have hjb : (j : Int) ≤ 1000000 := by have := HL.out; omega
      obtain ⟨ad, eA, hW0, hW1⟩ := at_T53 HR0.out (j : Int) (by omega) (by omega)
      cases eA
      simp only [Int.toNat_natCast] at hW0 hW1
      clear hjl
      by_cases hc : (rd_T53 l (j : Int)).f0 = k
      · have hcb : ((rd_T53 l (j : Int)).f0 == k) = true := beq_iff_eq.mpr hc
        have HC := Aside0.mk hc
        clear hc
        go_upto_region 5 with fail
        obtain ⟨XB1, hXB1, hb_B1⟩ := wq_name B1.out
        clear B1
        have B1 := Aside0.mk hb_B1
        have HXB1 := Aside0.mk hXB1
        clear hXB1 hb_B1
        have n_HB := Aside0.mk (below_drew1 HB.out)
        have n_B1 := Aside0.mk (blk_drew B1.out)
        have n_B2 := Aside0.mk (blk_drew B2.out)
        clear HB B1 B2
        have HB := n_HB
        have B1 := n_B1
        have B2 := n_B2
        clear n_HB n_B1 n_B2
        refine start_ (n := 8) (S := fun w' => w'.heap[g1]? = some (.cells XB1 25 (0, 0)) ∧ w'.cell? (ad.add (j * 2)) = some (.int .u64 (rd_T53 l (j : Int)).f0)) (ds := []) #[false, false, false, false, false, false, false, false] (by kernel_rfl) rfl rfl ⟨B1.out, (pw_cell_below HB.out hW0)⟩ (fun hHeld => ?_); refine with_tabW li_tb_ins.tab5 li_tb_ins.bits5 (fun HT_ HW_ => ?_)
        generalize wr.drew = pv1_ at HB B1 B2 hHeld ⊢
        refine pure_ (i := 0) (N := some 17) (v := ?_) (a' := ?_) (li_tb_ins_lb 8 1) rfl rfl (any_of HT_.out (by kernel_rfl)) (fun _ _ _ h => h) (Or.inl ⟨by rfl, ?_⟩) ?_ ?_; rotate_left
        · intro w'; go_simp; with_reducible rfl
        rotate_left
        · simp only [Act.put, List.setIfInBounds_toArray, List.set_cons_zero, List.set_cons_succ, i64_w, i32_w]; rfl
        refine pure_ (i := 1) (N := some 18) (v := ?_) (a' := ?_) (li_tb_ins_lb 8 3) rfl rfl (any_of HT_.out (by kernel_rfl)) (fun _ _ _ h => h) (Or.inl ⟨by rfl, ?_⟩) ?_ ?_; rotate_left
        · intro w'; go_simp; with_reducible rfl
        rotate_left
        · simp only [Act.put, List.setIfInBounds_toArray, List.set_cons_zero, List.set_cons_succ, i64_w, i32_w]; rfl
        refine pure_ (i := 2) (N := some 19) (v := ?_) (a' := ?_) (li_tb_ins_lb 8 7) rfl rfl (any_of HT_.out (by kernel_rfl)) (fun _ _ _ h => h) (Or.inl ⟨by rfl, ?_⟩) ?_ ?_; rotate_left
        · intro w'; go_simp; with_reducible rfl
        rotate_left
        · simp only [Act.put, List.setIfInBounds_toArray, List.set_cons_zero, List.set_cons_succ, i64_w, i32_w]; rfl
        refine pure_ (i := 3) (N := some 20) (v := ?_) (a' := ?_) (li_tb_ins_lb 8 15) rfl rfl (any_of HT_.out (by kernel_rfl)) (fun _ _ _ h => h) (Or.inl ⟨by rfl, ?_⟩) ?_ ?_; rotate_left
        · intro w'; go_simp; with_reducible rfl
        rotate_left
        · simp only [Act.put, List.setIfInBounds_toArray, List.set_cons_zero, List.set_cons_succ, i64_w, i32_w]; rfl
        refine pure_ (i := 5) (N := some 22) (v := ?_) (a' := ?_) (li_tb_ins_lb 8 47) rfl rfl (any_of HT_.out (by kernel_rfl)) (fun _ _ _ h => h) (Or.inl ⟨by rfl, ?_⟩) ?_ ?_; rotate_left
        · intro w'; go_simp; with_reducible rfl
        rotate_left
        · simp only [Act.put, List.setIfInBounds_toArray, List.set_cons_zero, List.set_cons_succ, i64_w, i32_w]; rfl
        refine take_ (i := 4) (N := some 21) (v := ?_) (a' := ?_) (li_tb_ins_lb 8 63) rfl rfl (take_ofW HT_.out HW_.out (by kernel_rfl)) (fun _ _ _ h => h) (Or.inl ⟨by rfl, ?_⟩) hHeld ?_ ?_; rotate_left
        · rintro w' ⟨s0, s1⟩; go_simp; with_reducible rfl
        rotate_left
        · simp only [Act.put, List.setIfInBounds_toArray, List.set_cons_zero, List.set_cons_succ, i64_w, i32_w]; rfl
        refine take_ (i := 6) (N := some 23) (v := ?_) (a' := ?_) (li_tb_ins_lb 8 127) rfl rfl (take_ofW HT_.out HW_.out (by kernel_rfl)) (fun _ _ _ h => h) (Or.inl ⟨by rfl, ?_⟩) hHeld ?_ ?_; rotate_left
        · rintro w' ⟨s0, s1⟩; refine Eq.trans (wq_run_load1 (ty := 23) (p := .tmp 22) (g := g1) (i := 1) (v := ?v3) ?ho3 ?hp3 Try.underlying23 ?hd3 s0 ?hv3) ?fin3; (case hd3 => rfl); (case ho3 => rfl); (case hp3 => rfl); (case hv3 => rewrite [HXB1.out]; rfl); (case fin3 => with_reducible rfl)
        rotate_left
        · simp only [Act.put, List.setIfInBounds_toArray, List.set_cons_zero, List.set_cons_succ, i64_w, i32_w]; rfl
        refine pure_ (i := 7) (N := some 24) (v := ?_) (a' := ?_) (li_tb_ins_lb 8 255) rfl rfl (any_of HT_.out (by kernel_rfl)) (fun _ _ _ h => h) (Or.inl ⟨by rfl, ?_⟩) ?_ ?_; rotate_left
        · intro w'; go_simp; with_reducible rfl
        rotate_left
        · simp only [Act.put, List.setIfInBounds_toArray, List.set_cons_zero, List.set_cons_succ, i64_w, i32_w]; rfl
        refine done_ (done_of HT_.out (by kernel_rfl)) ?_
        have hX := HXB1.out
        subst hX
        clear HXB1
        go_wp2
        go_roundg (l.length - (j + 1))
        case measure => have := HJL.out; have := HK.out; omega
        case rel =>
          have hjl := HJL.out
          have hcc := HC.out
          rw [li_rd l j hjl] at hcc
          have hll := HL.out
          exact ⟨j + 1, (j : Int), by first | rfl | (rw [show wrap64 ((j : Int) + 1) = ((j + 1 : Nat) : Int) from by unfold wrap64; omega]), rfl, ⟨hjl⟩, ⟨by omega⟩, ⟨AT.yes hjl hcc⟩, B1, B2, HB⟩
      · have hcb : ((rd_T53 l (j : Int)).f0 == k) = false := beq_eq_false_iff_ne.mpr hc
        have HC := Aside0.mk hc
        clear hc
        go_upto_region 5 with fail
        obtain ⟨XB1, hXB1, hb_B1⟩ := wq_name B1.out
        clear B1
        have B1 := Aside0.mk hb_B1
        have HXB1 := Aside0.mk hXB1
        clear hXB1 hb_B1
        have n_HB := Aside0.mk (below_drew1 HB.out)
        have n_B1 := Aside0.mk (blk_drew B1.out)
        have n_B2 := Aside0.mk (blk_drew B2.out)
        clear HB B1 B2
        have HB := n_HB
        have B1 := n_B1
        have B2 := n_B2
        clear n_HB n_B1 n_B2
        refine start_ (n := 8) (S := fun w' => w'.heap[g1]? = some (.cells XB1 25 (0, 0)) ∧ w'.cell? (ad.add (j * 2)) = some (.int .u64 (rd_T53 l (j : Int)).f0)) (ds := []) #[false, false, false, false, false, false, false, false] (by kernel_rfl) rfl rfl ⟨B1.out, (pw_cell_below HB.out hW0)⟩ (fun hHeld => ?_); refine with_tabW li_tb_ins.tab5 li_tb_ins.bits5 (fun HT_ HW_ => ?_)
        generalize wr.drew = qv1_ at HB B1 B2 hHeld ⊢
        refine pure_ (i := 0) (N := some 17) (v := ?_) (a' := ?_) (li_tb_ins_lb 8 1) rfl rfl (any_of HT_.out (by kernel_rfl)) (fun _ _ _ h => h) (Or.inl ⟨by rfl, ?_⟩) ?_ ?_; rotate_left
        · intro w'; go_simp; with_reducible rfl
        rotate_left
        · simp only [Act.put, List.setIfInBounds_toArray, List.set_cons_zero, List.set_cons_succ, i64_w, i32_w]; rfl
        refine pure_ (i := 1) (N := some 18) (v := ?_) (a' := ?_) (li_tb_ins_lb 8 3) rfl rfl (any_of HT_.out (by kernel_rfl)) (fun _ _ _ h => h) (Or.inl ⟨by rfl, ?_⟩) ?_ ?_; rotate_left
        · intro w'; go_simp; with_reducible rfl
        rotate_left
        · simp only [Act.put, List.setIfInBounds_toArray, List.set_cons_zero, List.set_cons_succ, i64_w, i32_w]; rfl
        refine pure_ (i := 2) (N := some 19) (v := ?_) (a' := ?_) (li_tb_ins_lb 8 7) rfl rfl (any_of HT_.out (by kernel_rfl)) (fun _ _ _ h => h) (Or.inl ⟨by rfl, ?_⟩) ?_ ?_; rotate_left
        · intro w'; go_simp; with_reducible rfl
        rotate_left
        · simp only [Act.put, List.setIfInBounds_toArray, List.set_cons_zero, List.set_cons_succ, i64_w, i32_w]; rfl
        refine pure_ (i := 3) (N := some 20) (v := ?_) (a' := ?_) (li_tb_ins_lb 8 15) rfl rfl (any_of HT_.out (by kernel_rfl)) (fun _ _ _ h => h) (Or.inl ⟨by rfl, ?_⟩) ?_ ?_; rotate_left
        · intro w'; go_simp; with_reducible rfl
        rotate_left
        · simp only [Act.put, List.setIfInBounds_toArray, List.set_cons_zero, List.set_cons_succ, i64_w, i32_w]; rfl
        refine pure_ (i := 5) (N := some 22) (v := ?_) (a' := ?_) (li_tb_ins_lb 8 47) rfl rfl (any_of HT_.out (by kernel_rfl)) (fun _ _ _ h => h) (Or.inl ⟨by rfl, ?_⟩) ?_ ?_; rotate_left
        · intro w'; go_simp; with_reducible rfl
        rotate_left
        · simp only [Act.put, List.setIfInBounds_toArray, List.set_cons_zero, List.set_cons_succ, i64_w, i32_w]; rfl
        refine take_ (i := 4) (N := some 21) (v := ?_) (a' := ?_) (li_tb_ins_lb 8 63) rfl rfl (take_ofW HT_.out HW_.out (by kernel_rfl)) (fun _ _ _ h => h) (Or.inl ⟨by rfl, ?_⟩) hHeld ?_ ?_; rotate_left
        · rintro w' ⟨s0, s1⟩; go_simp; with_reducible rfl
        rotate_left
        · simp only [Act.put, List.setIfInBounds_toArray, List.set_cons_zero, List.set_cons_succ, i64_w, i32_w]; rfl
        refine take_ (i := 6) (N := some 23) (v := ?_) (a' := ?_) (li_tb_ins_lb 8 127) rfl rfl (take_ofW HT_.out HW_.out (by kernel_rfl)) (fun _ _ _ h => h) (Or.inl ⟨by rfl, ?_⟩) hHeld ?_ ?_; rotate_left
        · rintro w' ⟨s0, s1⟩; refine Eq.trans (wq_run_load1 (ty := 23) (p := .tmp 22) (g := g1) (i := 1) (v := ?v4) ?ho4 ?hp4 Try.underlying23 ?hd4 s0 ?hv4) ?fin4; (case hd4 => rfl); (case ho4 => rfl); (case hp4 => rfl); (case hv4 => rewrite [HXB1.out]; rfl); (case fin4 => with_reducible rfl)
        rotate_left
        · simp only [Act.put, List.setIfInBounds_toArray, List.set_cons_zero, List.set_cons_succ, i64_w, i32_w]; rfl
        refine pure_ (i := 7) (N := some 24) (v := ?_) (a' := ?_) (li_tb_ins_lb 8 255) rfl rfl (any_of HT_.out (by kernel_rfl)) (fun _ _ _ h => h) (Or.inl ⟨by rfl, ?_⟩) ?_ ?_; rotate_left
        · intro w'; go_simp; with_reducible rfl
        rotate_left
        · simp only [Act.put, List.setIfInBounds_toArray, List.set_cons_zero, List.set_cons_succ, i64_w, i32_w]; rfl
        refine done_ (done_of HT_.out (by kernel_rfl)) ?_
        have hX := HXB1.out
        subst hX
        clear HXB1
        go_wp2
        go_roundg (l.length - (j + 1))
        case measure => have := HJL.out; have := HK.out; omega
        case rel =>
          have hjl := HJL.out
          have hcc := HC.out
          rw [li_rd l j hjl] at hcc
          have hll := HL.out
          exact ⟨j + 1, t, by first | rfl | (rw [show wrap64 ((j : Int) + 1) = ((j + 1 : Nat) : Int) from by unfold wrap64; omega]), rfl, ⟨hjl⟩, ⟨by omega⟩, ⟨AT.no hjl hcc HAT.out⟩, B1, B2, HB⟩
    · have hnlt : ¬ ((j : Int) < (l.length : Int)) := by omega
      have hjj : j = l.length := by have := HJ.out; omega
      subst hjj
      have ht : t = -1 := AT.none HSR.out HTH.out HAT.out
      subst ht
      have hi0 : (0 : Int) ≤ (i : Int) := by omega
      have hib : (i : Int) ≤ 1000000 := by have := HL.out; have := HIL.out; omega
      have hil2 : (i : Int) ≤ (l.length : Int) := by have := HIL.out; omega
      have hic : (i : Int) ≤ (c0 : Int) := by have := HC0.out; omega
      have hlc : (l.length : Int) ≤ (c0 : Int) := by have := HC0.out; omega
      go_upto_block 2 with (first | ((with_reducible refine gate_dst (N := 27) rfl ?_); refine wq_load1 (ty := 3) (p := .tmp 26) (g := g1) (i := 0) (v := ?v5) ?hgd5 ?ho5 ?hp5 Try.underlying3 ?hd5 B1.out ?hv5 ?_; (case hd5 => rfl); (case hgd5 => rfl); (case ho5 => rfl); (case hp5 => rfl); (case hv5 => rfl)))
      go_cut [8] from 33 to 48 (fun v8 wx => v8 = .int .i64 (i : Int) ∧ Aside0 (wx.heap[g1]? = some (.cells #[.int .i64 1, .int .u64 k, .int .u64 v, .int .i64 q] 25 (0, 0))) ∧ Aside0 (wx.heap[g2]? = some (.cells #[.int .i64 0, .bool false, .int .u64 0, .slice none 0 0] 30 (0, 0))) ∧ Aside0 (Below W.heap.size W wx))
      case first =>
        go_wp2_with fail
        go_loopg [8] l.length (fun kq v8 wr => ∃ (n : Nat), v8 = .int .i64 n ∧ Aside0 (n ≤ l.length) ∧ Aside0 (l.length - n ≤ kq) ∧ Aside0 (∀ (p : Nat) (h : p < l.length), p < n → l[p].f0 < k) ∧ Aside0 (wr.heap[g1]? = some (.cells #[.int .i64 1, .int .u64 k, .int .u64 v, .int .i64 q] 25 (0, 0))) ∧ Aside0 (wr.heap[g2]? = some (.cells #[.int .i64 0, .bool false, .int .u64 0, .slice none 0 0] 30 (0, 0))) ∧ Aside0 (Below W.heap.size W wr))
        case atStart => exact ⟨0, rfl, ⟨Nat.zero_le _⟩, ⟨by omega⟩, ⟨fun p h hp => by omega⟩, B1, B2, HB⟩
        case round =>
          clear HB B1 B2
          obtain ⟨n, rfl, HN2, HK2, HLO, B1, B2, HB⟩ := hrel
          by_cases hnl : n < l.length
          · have hlt : (n : Int) < (l.length : Int) := by omega
            have HNL := Aside0.mk hnl
            have hn0 : (0 : Int) ≤ (n : Int) := by omega
            have hnb : (n : Int) ≤ 1000000 := by have := HL.out; omega
            obtain ⟨ad', eA, hW0, hW1⟩ := at_T53 HR0.out (n : Int) (by omega) (by omega)
            cases eA
            simp only [Int.toNat_natCast] at hW0 hW1
            clear hnl
            by_cases hc : (rd_T53 l (n : Int)).f0 < k
            · have hcb : decide ((rd_T53 l (n : Int)).f0 < k) = true := decide_eq_true hc
              have HC := Aside0.mk hc
              clear hc
              go_upto_region 9 with fail
              obtain ⟨XB1, hXB1, hb_B1⟩ := wq_name B1.out
              clear B1
              have B1 := Aside0.mk hb_B1
              have HXB1 := Aside0.mk hXB1
              clear hXB1 hb_B1
              have n_HB := Aside0.mk (below_drew1 HB.out)
              have n_B1 := Aside0.mk (blk_drew B1.out)
              have n_B2 := Aside0.mk (blk_drew B2.out)
              clear HB B1 B2
              have HB := n_HB
              have B1 := n_B1
              have B2 := n_B2
              clear n_HB n_B1 n_B2
              refine start_ (n := 14) (S := fun w' => w'.heap[g1]? = some (.cells XB1 25 (0, 0)) ∧ w'.cell? (ad.add (n * 2)) = some (.int .u64 (rd_T53 l (n : Int)).f0)) (ds := []) #[false, false, false, false, false, false, false, false, false, false, false, false, false, false] (by kernel_rfl) rfl rfl ⟨B1.out, (pw_cell_below HB.out hW0)⟩ (fun hHeld => ?_); refine with_tabW li_tb_ins.tab9 li_tb_ins.bits9 (fun HT_ HW_ => ?_)
              generalize wr.drew = sv1_ at HB B1 B2 hHeld ⊢
              refine pure_ (i := 0) (N := some 33) (v := ?_) (a' := ?_) (li_tb_ins_lb 14 1) rfl rfl (any_of HT_.out (by kernel_rfl)) (fun _ _ _ h => h) (Or.inl ⟨by rfl, ?_⟩) ?_ ?_; rotate_left
              · intro w'; go_simp; with_reducible rfl
              rotate_left
              · simp only [Act.put, List.setIfInBounds_toArray, List.set_cons_zero, List.set_cons_succ, i64_w, i32_w]; rfl
              refine pure_ (i := 1) (N := some 34) (v := ?_) (a' := ?_) (li_tb_ins_lb 14 3) rfl rfl (any_of HT_.out (by kernel_rfl)) (fun _ _ _ h => h) (Or.inl ⟨by rfl, ?_⟩) ?_ ?_; rotate_left
              · intro w'; go_simp; with_reducible rfl
              rotate_left
              · simp only [Act.put, List.setIfInBounds_toArray, List.set_cons_zero, List.set_cons_succ, i64_w, i32_w]; rfl
              refine pure_ (i := 2) (N := some 35) (v := ?_) (a' := ?_) (li_tb_ins_lb 14 7) rfl rfl (any_of HT_.out (by kernel_rfl)) (fun _ _ _ h => h) (Or.inl ⟨by rfl, ?_⟩) ?_ ?_; rotate_left
              · intro w'; go_simp; with_reducible rfl
              rotate_left
              · simp only [Act.put, List.setIfInBounds_toArray, List.set_cons_zero, List.set_cons_succ, i64_w, i32_w]; rfl
              refine pure_ (i := 3) (N := some 36) (v := ?_) (a' := ?_) (li_tb_ins_lb 14 15) rfl rfl (any_of HT_.out (by kernel_rfl)) (fun _ _ _ h => h) (Or.inl ⟨by rfl, ?_⟩) ?_ ?_; rotate_left
              · intro w'; go_simp; with_reducible rfl
              rotate_left
              · simp only [Act.put, List.setIfInBounds_toArray, List.set_cons_zero, List.set_cons_succ, i64_w, i32_w]; rfl
              refine pure_ (i := 4) (N := some 37) (v := ?_) (a' := ?_) (li_tb_ins_lb 14 31) rfl rfl (any_of HT_.out (by kernel_rfl)) (fun _ _ _ h => h) (Or.inl ⟨by rfl, ?_⟩) ?_ ?_; rotate_left
              · intro w'; go_simp; with_reducible rfl
              rotate_left
              · simp only [Act.put, List.setIfInBounds_toArray, List.set_cons_zero, List.set_cons_succ, i64_w, i32_w]; rfl
              refine pure_ (i := 5) (N := some 38) (v := ?_) (a' := ?_) (li_tb_ins_lb 14 63) rfl rfl (any_of HT_.out (by kernel_rfl)) (fun _ _ _ h => h) (Or.inl ⟨by rfl, ?_⟩) ?_ ?_; rotate_left
              · intro w'; go_simp; with_reducible rfl
              rotate_left
              · simp only [Act.put, List.setIfInBounds_toArray, List.set_cons_zero, List.set_cons_succ, i64_w, i32_w]; rfl
              refine pure_ (i := 6) (N := some 39) (v := ?_) (a' := ?_) (li_tb_ins_lb 14 127) rfl rfl (any_of HT_.out (by kernel_rfl)) (fun _ _ _ h => h) (Or.inl ⟨by rfl, ?_⟩) ?_ ?_; rotate_left
              · intro w'; go_simp; with_reducible rfl
              rotate_left
              · simp only [Act.put, List.setIfInBounds_toArray, List.set_cons_zero, List.set_cons_succ, i64_w, i32_w]; rfl
              refine pure_ (i := 7) (N := some 40) (v := ?_) (a' := ?_) (li_tb_ins_lb 14 255) rfl rfl (any_of HT_.out (by kernel_rfl)) (fun _ _ _ h => h) (Or.inl ⟨by rfl, ?_⟩) ?_ ?_; rotate_left
              · intro w'; go_simp; with_reducible rfl
              rotate_left
              · simp only [Act.put, List.setIfInBounds_toArray, List.set_cons_zero, List.set_cons_succ, i64_w, i32_w]; rfl
              refine pure_ (i := 8) (N := some 41) (v := ?_) (a' := ?_) (li_tb_ins_lb 14 511) rfl rfl (any_of HT_.out (by kernel_rfl)) (fun _ _ _ h => h) (Or.inl ⟨by rfl, ?_⟩) ?_ ?_; rotate_left
              · intro w'; go_simp; with_reducible rfl
              rotate_left
              · simp only [Act.put, List.setIfInBounds_toArray, List.set_cons_zero, List.set_cons_succ, i64_w, i32_w]; rfl
              refine pure_ (i := 10) (N := some 43) (v := ?_) (a' := ?_) (li_tb_ins_lb 14 1535) rfl rfl (any_of HT_.out (by kernel_rfl)) (fun _ _ _ h => h) (Or.inl ⟨by rfl, ?_⟩) ?_ ?_; rotate_left
              · intro w'; go_simp; with_reducible rfl
              rotate_left
              · simp only [Act.put, List.setIfInBounds_toArray, List.set_cons_zero, List.set_cons_succ, i64_w, i32_w]; rfl
              refine take_ (i := 9) (N := some 42) (v := ?_) (a' := ?_) (li_tb_ins_lb 14 2047) rfl rfl (take_ofW HT_.out HW_.out (by kernel_rfl)) (fun _ _ _ h => h) (Or.inl ⟨by rfl, ?_⟩) hHeld ?_ ?_; rotate_left
              · rintro w' ⟨s0, s1⟩; go_simp; with_reducible rfl
              rotate_left
              · simp only [Act.put, List.setIfInBounds_toArray, List.set_cons_zero, List.set_cons_succ, i64_w, i32_w]; rfl
              refine take_ (i := 11) (N := some 44) (v := ?_) (a' := ?_) (li_tb_ins_lb 14 4095) rfl rfl (take_ofW HT_.out HW_.out (by kernel_rfl)) (fun _ _ _ h => h) (Or.inl ⟨by rfl, ?_⟩) hHeld ?_ ?_; rotate_left
              · rintro w' ⟨s0, s1⟩; refine Eq.trans (wq_run_load1 (ty := 23) (p := .tmp 43) (g := g1) (i := 1) (v := ?v6) ?ho6 ?hp6 Try.underlying23 ?hd6 s0 ?hv6) ?fin6; (case hd6 => rfl); (case ho6 => rfl); (case hp6 => rfl); (case hv6 => rewrite [HXB1.out]; rfl); (case fin6 => with_reducible rfl)
              rotate_left
              · simp only [Act.put, List.setIfInBounds_toArray, List.set_cons_zero, List.set_cons_succ, i64_w, i32_w]; rfl
              refine pure_ (i := 12) (N := some 45) (v := ?_) (a' := ?_) (li_tb_ins_lb 14 8191) rfl rfl (any_of HT_.out (by kernel_rfl)) (fun _ _ _ h => h) (Or.inl ⟨by rfl, ?_⟩) ?_ ?_; rotate_left
              · intro w'; go_simp; with_reducible rfl
              rotate_left
              · simp only [Act.put, List.setIfInBounds_toArray, List.set_cons_zero, List.set_cons_succ, i64_w, i32_w]; rfl
              refine pure_ (i := 13) (N := some 46) (v := ?_) (a' := ?_) (li_tb_ins_lb 14 16383) rfl rfl (any_of HT_.out (by kernel_rfl)) (fun _ _ _ h => h) (Or.inl ⟨by rfl, ?_⟩) ?_ ?_; rotate_left
              · intro w'; go_simp; with_reducible rfl
              rotate_left
              · simp only [Act.put, List.setIfInBounds_toArray, List.set_cons_zero, List.set_cons_succ, i64_w, i32_w]; rfl
              refine done_ (done_of HT_.out (by kernel_rfl)) ?_
              have hX := HXB1.out
              subst hX
              clear HXB1
              go_wp2
              go_roundg (l.length - (n + 1))
              case measure => have := HNL.out; have := HK2.out; omega
              case rel =>
                have hnl := HNL.out
                have hcc := HC.out
                rw [li_rd l n hnl] at hcc
                have hll := HL.out
                exact ⟨n + 1, by first | rfl | (rw [show wrap64 ((n : Int) + 1) = ((n + 1 : Nat) : Int) from by unfold wrap64; omega]), ⟨hnl⟩, ⟨by omega⟩, ⟨fun p h hp => by
                  rcases Nat.lt_or_ge p n with h3 | h3
                  · exact HLO.out p h h3
                  · have h4 : p = n := by omega
                    subst h4
                    exact hcc⟩, B1, B2, HB⟩
            · have hcb : decide ((rd_T53 l (n : Int)).f0 < k) = false := decide_eq_false hc
              have HC := Aside0.mk hc
              clear hc
              go_upto_region 9 with fail
              obtain ⟨XB1, hXB1, hb_B1⟩ := wq_name B1.out
              clear B1
              have B1 := Aside0.mk hb_B1
              have HXB1 := Aside0.mk hXB1
              clear hXB1 hb_B1
              have n_HB := Aside0.mk (below_drew1 HB.out)
              have n_B1 := Aside0.mk (blk_drew B1.out)
              have n_B2 := Aside0.mk (blk_drew B2.out)
              clear HB B1 B2
              have HB := n_HB
              have B1 := n_B1
              have B2 := n_B2
              clear n_HB n_B1 n_B2
              refine start_ (n := 14) (S := fun w' => w'.heap[g1]? = some (.cells XB1 25 (0, 0)) ∧ w'.cell? (ad.add (n * 2)) = some (.int .u64 (rd_T53 l (n : Int)).f0)) (ds := []) #[false, false, false, false, false, false, false, false, false, false, false, false, false, false] (by kernel_rfl) rfl rfl ⟨B1.out, (pw_cell_below HB.out hW0)⟩ (fun hHeld => ?_); refine with_tabW li_tb_ins.tab9 li_tb_ins.bits9 (fun HT_ HW_ => ?_)
              generalize wr.drew = uv1_ at HB B1 B2 hHeld ⊢
              refine pure_ (i := 0) (N := some 33) (v := ?_) (a' := ?_) (li_tb_ins_lb 14 1) rfl rfl (any_of HT_.out (by kernel_rfl)) (fun _ _ _ h => h) (Or.inl ⟨by rfl, ?_⟩) ?_ ?_; rotate_left
              · intro w'; go_simp; with_reducible rfl
              rotate_left
              · simp only [Act.put, List.setIfInBounds_toArray, List.set_cons_zero, List.set_cons_succ, i64_w, i32_w]; rfl
              refine pure_ (i := 1) (N := some 34) (v := ?_) (a' := ?_) (li_tb_ins_lb 14 3) rfl rfl (any_of HT_.out (by kernel_rfl)) (fun _ _ _ h => h) (Or.inl ⟨by rfl, ?_⟩) ?_ ?_; rotate_left
              · intro w'; go_simp; with_reducible rfl
              rotate_left
              · simp only [Act.put, List.setIfInBounds_toArray, List.set_cons_zero, List.set_cons_succ, i64_w, i32_w]; rfl
              refine pure_ (i := 2) (N := some 35) (v := ?_) (a' := ?_) (li_tb_ins_lb 14 7) rfl rfl (any_of HT_.out (by kernel_rfl)) (fun _ _ _ h => h) (Or.inl ⟨by rfl, ?_⟩) ?_ ?_; rotate_left
              · intro w'; go_simp; with_reducible rfl
              rotate_left
              · simp only [Act.put, List.setIfInBounds_toArray, List.set_cons_zero, List.set_cons_succ, i64_w, i32_w]; rfl
              refine pure_ (i := 3) (N := some 36) (v := ?_) (a' := ?_) (li_tb_ins_lb 14 15) rfl rfl (any_of HT_.out (by kernel_rfl)) (fun _ _ _ h => h) (Or.inl ⟨by rfl, ?_⟩) ?_ ?_; rotate_left
              · intro w'; go_simp; with_reducible rfl
              rotate_left
              · simp only [Act.put, List.setIfInBounds_toArray, List.set_cons_zero, List.set_cons_succ, i64_w, i32_w]; rfl
              refine pure_ (i := 4) (N := some 37) (v := ?_) (a' := ?_) (li_tb_ins_lb 14 31) rfl rfl (any_of HT_.out (by kernel_rfl)) (fun _ _ _ h => h) (Or.inl ⟨by rfl, ?_⟩) ?_ ?_; rotate_left
              · intro w'; go_simp; with_reducible rfl
              rotate_left
              · simp only [Act.put, List.setIfInBounds_toArray, List.set_cons_zero, List.set_cons_succ, i64_w, i32_w]; rfl
              refine pure_ (i := 5) (N := some 38) (v := ?_) (a' := ?_) (li_tb_ins_lb 14 63) rfl rfl (any_of HT_.out (by kernel_rfl)) (fun _ _ _ h => h) (Or.inl ⟨by rfl, ?_⟩) ?_ ?_; rotate_left
              · intro w'; go_simp; with_reducible rfl
              rotate_left
              · simp only [Act.put, List.setIfInBounds_toArray, List.set_cons_zero, List.set_cons_succ, i64_w, i32_w]; rfl
              refine pure_ (i := 6) (N := some 39) (v := ?_) (a' := ?_) (li_tb_ins_lb 14 127) rfl rfl (any_of HT_.out (by kernel_rfl)) (fun _ _ _ h => h) (Or.inl ⟨by rfl, ?_⟩) ?_ ?_; rotate_left
              · intro w'; go_simp; with_reducible rfl
              rotate_left
              · simp only [Act.put, List.setIfInBounds_toArray, List.set_cons_zero, List.set_cons_succ, i64_w, i32_w]; rfl
              refine pure_ (i := 7) (N := some 40) (v := ?_) (a' := ?_) (li_tb_ins_lb 14 255) rfl rfl (any_of HT_.out (by kernel_rfl)) (fun _ _ _ h => h) (Or.inl ⟨by rfl, ?_⟩) ?_ ?_; rotate_left
              · intro w'; go_simp; with_reducible rfl
              rotate_left
              · simp only [Act.put, List.setIfInBounds_toArray, List.set_cons_zero, List.set_cons_succ, i64_w, i32_w]; rfl
              refine pure_ (i := 8) (N := some 41) (v := ?_) (a' := ?_) (li_tb_ins_lb 14 511) rfl rfl (any_of HT_.out (by kernel_rfl)) (fun _ _ _ h => h) (Or.inl ⟨by rfl, ?_⟩) ?_ ?_; rotate_left
              · intro w'; go_simp; with_reducible rfl
              rotate_left
              · simp only [Act.put, List.setIfInBounds_toArray, List.set_cons_zero, List.set_cons_succ, i64_w, i32_w]; rfl
              refine pure_ (i := 10) (N := some 43) (v := ?_) (a' := ?_) (li_tb_ins_lb 14 1535) rfl rfl (any_of HT_.out (by kernel_rfl)) (fun _ _ _ h => h) (Or.inl ⟨by rfl, ?_⟩) ?_ ?_; rotate_left
              · intro w'; go_simp; with_reducible rfl
              rotate_left
              · simp only [Act.put, List.setIfInBounds_toArray, List.set_cons_zero, List.set_cons_succ, i64_w, i32_w]; rfl
              refine take_ (i := 9) (N := some 42) (v := ?_) (a' := ?_) (li_tb_ins_lb 14 2047) rfl rfl (take_ofW HT_.out HW_.out (by kernel_rfl)) (fun _ _ _ h => h) (Or.inl ⟨by rfl, ?_⟩) hHeld ?_ ?_; rotate_left
              · rintro w' ⟨s0, s1⟩; go_simp; with_reducible rfl
              rotate_left
              · simp only [Act.put, List.setIfInBounds_toArray, List.set_cons_zero, List.set_cons_succ, i64_w, i32_w]; rfl
              refine take_ (i := 11) (N := some 44) (v := ?_) (a' := ?_) (li_tb_ins_lb 14 4095) rfl rfl (take_ofW HT_.out HW_.out (by kernel_rfl)) (fun _ _ _ h => h) (Or.inl ⟨by rfl, ?_⟩) hHeld ?_ ?_; rotate_left
              · rintro w' ⟨s0, s1⟩; refine Eq.trans (wq_run_load1 (ty := 23) (p := .tmp 43) (g := g1) (i := 1) (v := ?v7) ?ho7 ?hp7 Try.underlying23 ?hd7 s0 ?hv7) ?fin7; (case hd7 => rfl); (case ho7 => rfl); (case hp7 => rfl); (case hv7 => rewrite [HXB1.out]; rfl); (case fin7 => with_reducible rfl)
              rotate_left
              · simp only [Act.put, List.setIfInBounds_toArray, List.set_cons_zero, List.set_cons_succ, i64_w, i32_w]; rfl
              refine pure_ (i := 12) (N := some 45) (v := ?_) (a' := ?_) (li_tb_ins_lb 14 8191) rfl rfl (any_of HT_.out (by kernel_rfl)) (fun _ _ _ h => h) (Or.inl ⟨by rfl, ?_⟩) ?_ ?_; rotate_left
              · intro w'; go_simp; with_reducible rfl
              rotate_left
              · simp only [Act.put, List.setIfInBounds_toArray, List.set_cons_zero, List.set_cons_succ, i64_w, i32_w]; rfl
              refine pure_ (i := 13) (N := some 46) (v := ?_) (a' := ?_) (li_tb_ins_lb 14 16383) rfl rfl (any_of HT_.out (by kernel_rfl)) (fun _ _ _ h => h) (Or.inl ⟨by rfl, ?_⟩) ?_ ?_; rotate_left
              · intro w'; go_simp; with_reducible rfl
              rotate_left
              · simp only [Act.put, List.setIfInBounds_toArray, List.set_cons_zero, List.set_cons_succ, i64_w, i32_w]; rfl
              refine done_ (done_of HT_.out (by kernel_rfl)) ?_
              have hX := HXB1.out
              subst hX
              clear HXB1
              have hni : i = n := by
                rw [← HI.out]
                have hcc := HC.out
                rw [li_rd l n HNL.out] at hcc
                exact (kix_of l k n HN2.out (fun p h => HLO.out p (by have := HN2.out; omega) h) (fun _ => by omega))
              subst hni
              go_wp2_with fail
              go_meet
              exact ⟨rfl, B1, B2, HB⟩
          · have hnlt2 : ¬ ((n : Int) < (l.length : Int)) := by omega
            have hnl2 : n = l.length := by have := HN2.out; omega
            have hni : i = n := by
              rw [← HI.out]
              exact (kix_of l k n HN2.out (fun p h => HLO.out p (by have := HN2.out; omega) h) (fun h => absurd h hnl))
            clear hnl hnl2
            go_upto_region 9 with fail
            have n_HB := Aside0.mk (below_drew1 HB.out)
            have n_B1 := Aside0.mk (blk_drew B1.out)
            have n_B2 := Aside0.mk (blk_drew B2.out)
            clear HB B1 B2
            have HB := n_HB
            have B1 := n_B1
            have B2 := n_B2
            clear n_HB n_B1 n_B2
            refine start_ (n := 14) (S := fun w' => True) (ds := []) #[false, false, false, false, false, false, false, false, false, false, false, false, false, false] (by kernel_rfl) rfl rfl trivial (fun hHeld => ?_); refine with_tabW li_tb_ins.tab9 li_tb_ins.bits9 (fun HT_ HW_ => ?_)
            generalize wr.drew = xv1_ at HB B1 B2 hHeld ⊢
            refine pure_ (i := 0) (N := some 33) (v := ?_) (a' := ?_) (li_tb_ins_lb 14 1) rfl rfl (any_of HT_.out (by kernel_rfl)) (fun _ _ _ h => h) (Or.inl ⟨by rfl, ?_⟩) ?_ ?_; rotate_left
            · intro w'; go_simp; with_reducible rfl
            rotate_left
            · simp only [Act.put, List.setIfInBounds_toArray, List.set_cons_zero, List.set_cons_succ, i64_w, i32_w]; rfl
            refine pure_ (i := 1) (N := some 34) (v := ?_) (a' := ?_) (li_tb_ins_lb 14 3) rfl rfl (any_of HT_.out (by kernel_rfl)) (fun _ _ _ h => h) (Or.inl ⟨by rfl, ?_⟩) ?_ ?_; rotate_left
            · intro w'; go_simp; with_reducible rfl
            rotate_left
            · simp only [Act.put, List.setIfInBounds_toArray, List.set_cons_zero, List.set_cons_succ, i64_w, i32_w]; rfl
            refine pure_ (i := 2) (N := some 35) (v := ?_) (a' := ?_) (li_tb_ins_lb 14 7) rfl rfl (any_of HT_.out (by kernel_rfl)) (fun _ _ _ h => h) (Or.inl ⟨by rfl, ?_⟩) ?_ ?_; rotate_left
            · intro w'; go_simp; with_reducible rfl
            rotate_left
            · simp only [Act.put, List.setIfInBounds_toArray, List.set_cons_zero, List.set_cons_succ, i64_w, i32_w]; rfl
            refine pure_ (i := 3) (N := some 36) (v := ?_) (a' := ?_) (li_tb_ins_lb 14 15) rfl rfl (any_of HT_.out (by kernel_rfl)) (fun _ _ _ h => h) (Or.inl ⟨by rfl, ?_⟩) ?_ ?_; rotate_left
            · intro w'; go_simp; with_reducible rfl
            rotate_left
            · simp only [Act.put, List.setIfInBounds_toArray, List.set_cons_zero, List.set_cons_succ, i64_w, i32_w]; rfl
            refine pure_ (i := 4) (N := some 37) (v := ?_) (a' := ?_) (li_tb_ins_lb 14 31) rfl rfl (any_of HT_.out (by kernel_rfl)) (fun _ _ _ h => h) (Or.inl ⟨by rfl, ?_⟩) ?_ ?_; rotate_left
            · intro w'; go_simp; with_reducible rfl
            rotate_left
            · simp only [Act.put, List.setIfInBounds_toArray, List.set_cons_zero, List.set_cons_succ, i64_w, i32_w]; rfl
            refine pure_ (i := 5) (N := some 38) (v := undef) (a' := ?_) (li_tb_ins_lb 14 63) rfl rfl (any_of HT_.out (by kernel_rfl)) (fun _ _ _ h => h) (Or.inr ⟨by rfl, rfl⟩) ?_ ?_; rotate_left
            · simp only [Act.put, List.setIfInBounds_toArray, List.set_cons_zero, List.set_cons_succ, i64_w, i32_w]; rfl
            refine pure_ (i := 6) (N := some 39) (v := undef) (a' := ?_) (li_tb_ins_lb 14 127) rfl rfl (any_of HT_.out (by kernel_rfl)) (fun _ _ _ h => h) (Or.inr ⟨by rfl, rfl⟩) ?_ ?_; rotate_left
            · simp only [Act.put, List.setIfInBounds_toArray, List.set_cons_zero, List.set_cons_succ, i64_w, i32_w]; rfl
            refine pure_ (i := 7) (N := some 40) (v := undef) (a' := ?_) (li_tb_ins_lb 14 255) rfl rfl (any_of HT_.out (by kernel_rfl)) (fun _ _ _ h => h) (Or.inr ⟨by rfl, rfl⟩) ?_ ?_; rotate_left
            · simp only [Act.put, List.setIfInBounds_toArray, List.set_cons_zero, List.set_cons_succ, i64_w, i32_w]; rfl
            refine pure_ (i := 8) (N := some 41) (v := undef) (a' := ?_) (li_tb_ins_lb 14 511) rfl rfl (any_of HT_.out (by kernel_rfl)) (fun _ _ _ h => h) (Or.inr ⟨by rfl, rfl⟩) ?_ ?_; rotate_left
            · simp only [Act.put, List.setIfInBounds_toArray, List.set_cons_zero, List.set_cons_succ, i64_w, i32_w]; rfl
            refine pure_ (i := 9) (N := some 42) (v := undef) (a' := ?_) (li_tb_ins_lb 14 1023) rfl rfl (any_of HT_.out (by kernel_rfl)) (fun _ _ _ h => h) (Or.inr ⟨by rfl, rfl⟩) ?_ ?_; rotate_left
            · simp only [Act.put, List.setIfInBounds_toArray, List.set_cons_zero, List.set_cons_succ, i64_w, i32_w]; rfl
            refine pure_ (i := 10) (N := some 43) (v := undef) (a' := ?_) (li_tb_ins_lb 14 2047) rfl rfl (any_of HT_.out (by kernel_rfl)) (fun _ _ _ h => h) (Or.inr ⟨by rfl, rfl⟩) ?_ ?_; rotate_left
            · simp only [Act.put, List.setIfInBounds_toArray, List.set_cons_zero, List.set_cons_succ, i64_w, i32_w]; rfl
            refine pure_ (i := 11) (N := some 44) (v := undef) (a' := ?_) (li_tb_ins_lb 14 4095) rfl rfl (any_of HT_.out (by kernel_rfl)) (fun _ _ _ h => h) (Or.inr ⟨by rfl, rfl⟩) ?_ ?_; rotate_left
            · simp only [Act.put, List.setIfInBounds_toArray, List.set_cons_zero, List.set_cons_succ, i64_w, i32_w]; rfl
            refine pure_ (i := 12) (N := some 45) (v := undef) (a' := ?_) (li_tb_ins_lb 14 8191) rfl rfl (any_of HT_.out (by kernel_rfl)) (fun _ _ _ h => h) (Or.inr ⟨by rfl, rfl⟩) ?_ ?_; rotate_left
            · simp only [Act.put, List.setIfInBounds_toArray, List.set_cons_zero, List.set_cons_succ, i64_w, i32_w]; rfl
            refine pure_ (i := 13) (N := some 46) (v := ?_) (a' := ?_) (li_tb_ins_lb 14 16383) rfl rfl (any_of HT_.out (by kernel_rfl)) (fun _ _ _ h => h) (Or.inl ⟨by rfl, ?_⟩) ?_ ?_; rotate_left
            · intro w'; go_simp; with_reducible rfl
            rotate_left
            · simp only [Act.put, List.setIfInBounds_toArray, List.set_cons_zero, List.set_cons_succ, i64_w, i32_w]; rfl
            refine done_ (done_of HT_.out (by kernel_rfl)) ?_
            subst hni
            go_wp2_with fail
            go_meet
            exact ⟨rfl, B1, B2, HB⟩
      case rest =>
        clear HB B1 B2
        obtain ⟨rfl, B1, B2, HB⟩ := hcut
        by_cases hcc : c0 = i
        · have HDE := Aside0.mk (show l.drop i = [] from List.drop_of_length_le (by have := HC0.out; omega))
          replace hcc := eq_true hcc
          go_wp2_with (first | (refine li_ev0 (ad := ad) (m := i) (c := c0) rfl (.tmp 49) (.tmp 52) rfl rfl (by rfl) (by have := HIL.out; rw [List.length_take]; omega) (cells_take (C_cells (Kd.C_below HR0.out HB.out)) i) (by have := HL.out; have := HIL.out; rw [List.length_take]; omega) ?_; intro v1 w1 ho hbk; have hNN : ∃ N, g1 < N ∧ g2 < N ∧ W.heap.size ≤ N ∧ N ≤ w1.heap.size ∧ OW w1 N v1 _ := ⟨_, blk_lt B1.out, blk_lt B2.out, HB.out.size, hbk.size, ho⟩; have n_HB := Aside0.mk (below_step HB.out hbk); have n_B1 := Aside0.mk (blk_below B1.out hbk); have n_B2 := Aside0.mk (blk_below B2.out hbk); clear HB B1 B2; have HB := n_HB; have B1 := n_B1; have B2 := n_B2; clear n_HB n_B1 n_B2; clear hbk ho; obtain ⟨N, n1, n2, n3, n4, n5⟩ := hNN; have HN := Aside0.mk (And.intro n1 (And.intro n2 n3)); have HS := Aside0.mk n4; have HO := Aside0.mk n5; clear n1 n2 n3 n4 n5) | ((with_reducible refine gate_dst (N := 56) rfl ?_); refine wq_load1 (ty := 23) (p := .tmp 55) (g := g1) (i := 1) (v := ?v8) ?hgd8 ?ho8 ?hp8 Try.underlying23 ?hd8 B1.out ?hv8 ?_; (case hd8 => rfl); (case hgd8 => rfl); (case ho8 => rfl); (case hp8 => rfl); (case hv8 => rfl)) | ((with_reducible refine gate_dst (N := 58) rfl ?_); refine wq_load1 (ty := 23) (p := .tmp 57) (g := g1) (i := 2) (v := ?v9) ?hgd9 ?ho9 ?hp9 Try.underlying23 ?hd9 B1.out ?hv9 ?_; (case hd9 => rfl); (case hgd9 => rfl); (case ho9 => rfl); (case hp9 => rfl); (case hv9 => rfl)) | (refine li_ev1 (v := v1) (w := w1.alloc (.cells #[.int .u64 k, .int .u64 v] 53)) (N := N) (xs := l.take i) (ys := [⟨k, v⟩]) (ad := ⟨w1.heap.size, 0, none⟩) (m := 1) (c := 1) rfl (.tmp 54) (.tmp 60) rfl rfl rfl (OW.below HO.out (below_alloc (Below.refl _ _) _)) (Nat.le_trans HS.out (Below.refl w1.heap.size w1 |>.alloc (Nat.le_refl _) (.cells #[.int .u64 k, .int .u64 v] 53)).size) rfl (cell_two_new _ _ _ _) (by have := HL.out; have := HIL.out; rw [List.length_take]; omega) (by simp) ?_; intro v2 w2 ho hbk0; have hbk : Below N w1 w2 := (Below.mono (below_alloc (Below.refl _ _) _) HS.out).trans hbk0; clear hbk0; have n_HO := Aside0.mk ho; have n_HS := Aside0.mk (Nat.le_trans HS.out hbk.size); have n_HB := Aside0.mk (HB.out.trans (hbk.mono HN.out.2.2)); have n_B1 := Aside0.mk ((hbk.block g1 HN.out.1).trans B1.out); have n_B2 := Aside0.mk ((hbk.block g2 HN.out.2.1).trans B2.out); clear HB HO HS B1 B2 ho hbk; have HB := n_HB; have HO := n_HO; have HS := n_HS; have B1 := n_B1; have B2 := n_B2; clear n_HB n_HO n_HS n_B1 n_B2) | (refine li_ev1 (v := v2) (ad := ad) (m := l.length - i) (c := c0 - i) rfl (.tmp 62) (.tmp 65) rfl rfl rfl HO.out HS.out (by rw [List.length_drop]) (fun j u hj => by rw [HDE.out] at hj; simp [encs_nil] at hj) (by have := HL.out; have := HIL.out; rw [List.length_append, List.length_take]; simp; omega) (by have := HL.out; rw [List.length_drop]; omega) ?_; intro v3 w3 ho hbk; have n_HO := Aside0.mk ho; have n_HS := Aside0.mk (Nat.le_trans HS.out hbk.size); have n_HB := Aside0.mk (HB.out.trans (hbk.mono HN.out.2.2)); have n_B1 := Aside0.mk ((hbk.block g1 HN.out.1).trans B1.out); have n_B2 := Aside0.mk ((hbk.block g2 HN.out.2.1).trans B2.out); clear HB HO HS B1 B2 ho hbk; have HB := n_HB; have HO := n_HO; have HS := n_HS; have B1 := n_B1; have B2 := n_B2; clear n_HB n_HO n_HS n_B1 n_B2) | ((with_reducible refine gate_store (p := 5) rfl ?_); refine wq_store (ty := 30) (p := .tmp 5) (x := .tmp 68) (g := g2) (i := 0) (k := 4) (v := ?v10) (vs := ?vs10) (cs' := ?cs10) ?hgd10 ?hdst10 ?ho10 ?hp10 ?hx10 ?hvc10 ?hi10 ?hk10 ?h110 B2.out ?hsz10 ?hcs10 ?_; (case hi10 => kernel_rfl); (case hgd10 => rfl); (case hdst10 => rfl); (case ho10 => rfl); (case hp10 => rfl); (case hx10 => go_simp; with_reducible rfl); (case hvc10 => simp only [Value.cells]; with_reducible rfl); (case hk10 => rfl); (case h110 => rfl); (case hsz10 => exact Nat.le_of_ble_eq_true rfl); (case hcs10 => simp only [wqPut, List.setIfInBounds_toArray, List.set_cons_succ, List.set_cons_zero, Nat.reduceAdd]; with_reducible rfl); intro apw1_ hb hgr; have n_HB := Aside0.mk (HB.out.grown hgr HB.out.size (fun k hk => by cases hk; exact HGB2.out.2)); have n_HO := Aside0.mk (OW.grown HO.out hgr HN.out.2.1); have n_HS := Aside0.mk (Nat.le_trans HS.out hgr.size); have n_B1 := Aside0.mk (wq_blk B1.out hgr HGB2.out.1); have n_B2 := Aside0.mk hb; clear HB HO HS B1 B2 hb hgr; have HB := n_HB; have HO := n_HO; have HS := n_HS; have B1 := n_B1; have B2 := n_B2; clear n_HB n_HO n_HS n_B1 n_B2))
          have HO2 := Aside0.mk (show OW _ N v3 (insl l i ⟨k, v⟩) from by have h := HO.out; rw [List.append_assoc] at h; exact h)
          clear HO
          have HO := HO2
          obtain ⟨A1, c1, e1, e2, e3, e4⟩ := OW.C3 HO.out
          subst e1
          refine bodyPost_ret (res_tc rfl _ _ _ _ _ _ _ rfl B2.out Try.underlying30 rfl (by kernel_rfl)) rfl ?_
          exact ⟨A1, c1, rfl, e2, e3, HB.out, .inr (fun q hq => Nat.le_trans HN.out.2.2 (e4 q hq))⟩
        · skip
          go_wp2_with (first | (refine li_ev0 (ad := ad) (m := i) (c := c0) rfl (.tmp 49) (.tmp 52) rfl rfl (by rfl) (by have := HIL.out; rw [List.length_take]; omega) (cells_take (C_cells (Kd.C_below HR0.out HB.out)) i) (by have := HL.out; have := HIL.out; rw [List.length_take]; omega) ?_; intro v1 w1 ho hbk; have hNN : ∃ N, g1 < N ∧ g2 < N ∧ W.heap.size ≤ N ∧ N ≤ w1.heap.size ∧ OW w1 N v1 _ := ⟨_, blk_lt B1.out, blk_lt B2.out, HB.out.size, hbk.size, ho⟩; have n_HB := Aside0.mk (below_step HB.out hbk); have n_B1 := Aside0.mk (blk_below B1.out hbk); have n_B2 := Aside0.mk (blk_below B2.out hbk); clear HB B1 B2; have HB := n_HB; have B1 := n_B1; have B2 := n_B2; clear n_HB n_B1 n_B2; clear hbk ho; obtain ⟨N, n1, n2, n3, n4, n5⟩ := hNN; have HN := Aside0.mk (And.intro n1 (And.intro n2 n3)); have HS := Aside0.mk n4; have HO := Aside0.mk n5; clear n1 n2 n3 n4 n5) | ((with_reducible refine gate_dst (N := 56) rfl ?_); refine wq_load1 (ty := 23) (p := .tmp 55) (g := g1) (i := 1) (v := ?v11) ?hgd11 ?ho11 ?hp11 Try.underlying23 ?hd11 B1.out ?hv11 ?_; (case hd11 => rfl); (case hgd11 => rfl); (case ho11 => rfl); (case hp11 => rfl); (case hv11 => rfl)) | ((with_reducible refine gate_dst (N := 58) rfl ?_); refine wq_load1 (ty := 23) (p := .tmp 57) (g := g1) (i := 2) (v := ?v12) ?hgd12 ?ho12 ?hp12 Try.underlying23 ?hd12 B1.out ?hv12 ?_; (case hd12 => rfl); (case hgd12 => rfl); (case ho12 => rfl); (case hp12 => rfl); (case hv12 => rfl)) | (refine li_ev1 (v := v1) (w := w1.alloc (.cells #[.int .u64 k, .int .u64 v] 53)) (N := N) (xs := l.take i) (ys := [⟨k, v⟩]) (ad := ⟨w1.heap.size, 0, none⟩) (m := 1) (c := 1) rfl (.tmp 54) (.tmp 60) rfl rfl rfl (OW.below HO.out (below_alloc (Below.refl _ _) _)) (Nat.le_trans HS.out (Below.refl w1.heap.size w1 |>.alloc (Nat.le_refl _) (.cells #[.int .u64 k, .int .u64 v] 53)).size) rfl (cell_two_new _ _ _ _) (by have := HL.out; have := HIL.out; rw [List.length_take]; omega) (by simp) ?_; intro v2 w2 ho hbk0; have hbk : Below N w1 w2 := (Below.mono (below_alloc (Below.refl _ _) _) HS.out).trans hbk0; clear hbk0; have n_HO := Aside0.mk ho; have n_HS := Aside0.mk (Nat.le_trans HS.out hbk.size); have n_HB := Aside0.mk (HB.out.trans (hbk.mono HN.out.2.2)); have n_B1 := Aside0.mk ((hbk.block g1 HN.out.1).trans B1.out); have n_B2 := Aside0.mk ((hbk.block g2 HN.out.2.1).trans B2.out); clear HB HO HS B1 B2 ho hbk; have HB := n_HB; have HO := n_HO; have HS := n_HS; have B1 := n_B1; have B2 := n_B2; clear n_HB n_HO n_HS n_B1 n_B2) | (refine li_ev1 (v := v2) (ad := ad.add (i * 2)) (m := l.length - i) (c := c0 - i) rfl (.tmp 62) (.tmp 65) rfl rfl rfl HO.out HS.out (by rw [List.length_drop]) (cells_drop (C_cells (Kd.C_below HR0.out HB.out)) i) (by have := HL.out; have := HIL.out; rw [List.length_append, List.length_take]; simp; omega) (by have := HL.out; rw [List.length_drop]; omega) ?_; intro v3 w3 ho hbk; have n_HO := Aside0.mk ho; have n_HS := Aside0.mk (Nat.le_trans HS.out hbk.size); have n_HB := Aside0.mk (HB.out.trans (hbk.mono HN.out.2.2)); have n_B1 := Aside0.mk ((hbk.block g1 HN.out.1).trans B1.out); have n_B2 := Aside0.mk ((hbk.block g2 HN.out.2.1).trans B2.out); clear HB HO HS B1 B2 ho hbk; have HB := n_HB; have HO := n_HO; have HS := n_HS; have B1 := n_B1; have B2 := n_B2; clear n_HB n_HO n_HS n_B1 n_B2) | ((with_reducible refine gate_store (p := 5) rfl ?_); refine wq_store (ty := 30) (p := .tmp 5) (x := .tmp 68) (g := g2) (i := 0) (k := 4) (v := ?v13) (vs := ?vs13) (cs' := ?cs13) ?hgd13 ?hdst13 ?ho13 ?hp13 ?hx13 ?hvc13 ?hi13 ?hk13 ?h113 B2.out ?hsz13 ?hcs13 ?_; (case hi13 => kernel_rfl); (case hgd13 => rfl); (case hdst13 => rfl); (case ho13 => rfl); (case hp13 => rfl); (case hx13 => go_simp; with_reducible rfl); (case hvc13 => simp only [Value.cells]; with_reducible rfl); (case hk13 => rfl); (case h113 => rfl); (case hsz13 => exact Nat.le_of_ble_eq_true rfl); (case hcs13 => simp only [wqPut, List.setIfInBounds_toArray, List.set_cons_succ, List.set_cons_zero, Nat.reduceAdd]; with_reducible rfl); intro aqw1_ hb hgr; have n_HB := Aside0.mk (HB.out.grown hgr HB.out.size (fun k hk => by cases hk; exact HGB2.out.2)); have n_HO := Aside0.mk (OW.grown HO.out hgr HN.out.2.1); have n_HS := Aside0.mk (Nat.le_trans HS.out hgr.size); have n_B1 := Aside0.mk (wq_blk B1.out hgr HGB2.out.1); have n_B2 := Aside0.mk hb; clear HB HO HS B1 B2 hb hgr; have HB := n_HB; have HO := n_HO; have HS := n_HS; have B1 := n_B1; have B2 := n_B2; clear n_HB n_HO n_HS n_B1 n_B2))
          have HO2 := Aside0.mk (show OW _ N v3 (insl l i ⟨k, v⟩) from by have h := HO.out; rw [List.append_assoc] at h; exact h)
          clear HO
          have HO := HO2
          obtain ⟨A1, c1, e1, e2, e3, e4⟩ := OW.C3 HO.out
          subst e1
          refine bodyPost_ret (res_tc rfl _ _ _ _ _ _ _ rfl B2.out Try.underlying30 rfl (by kernel_rfl)) rfl ?_
          exact ⟨A1, c1, rfl, e2, e3, HB.out, .inr (fun q hq => Nat.le_trans HN.out.2.2 (e4 q hq))⟩
def li_tb_insn_lb (n m : Nat) : Array Bool := ((List.range n).map (fun i => m.testBit i)).toArray
def li_tb_insn.T9 : Bool × List (List Nat × List Nat) := (true, [([], []), ([], []), ([1], [1]), ([0, 2], [0, 2]), ([3], [3]), ([4], [4]), ([4], [4]), ([5, 6, 4], [4, 5, 6]), ([7, 4], [4, 7]), ([8, 4], [4, 8]), ([4], [4]), ([10, 4], [4, 10]), ([9, 11, 4], [4, 9, 11]), ([4, 12], [4, 12])])
def li_tb_insn.B9 : List Nat := [0, 0, 2, 7, 15, 31, 31, 127, 255, 511, 31, 1055, 4095, 8191]
theorem li_tb_insn.tab9 : rtab .any (opsOf Try.f10 9) = li_tb_insn.T9 := by kernel_rfl
theorem li_tb_insn.bits9 : waitsOk li_tb_insn.T9.2 li_tb_insn.B9 = true := by kernel_rfl
set_option maxHeartbeats 8000000 in
set_option maxRecDepth 100000 in
theorem li_tb_insn (c0 : Nat) (k v q : Int) (W : World) (hc0 : 0 ≤ c0) :
    Calls Try.prog 10 #[.slice none 0 c0, .agg #[.int .i64 1, .int .u64 k, .int .u64 v, .int .i64 q]] W fun e w' => ∃ A c, e = .returned (.tuple #[.slice A 1 c, .agg #[.int .i64 0, .bool true, .int .u64 0, .slice none 0 0]]) ∧ 1 ≤ c ∧ Kd.C k53 w' A 1 [⟨k, v⟩] ∧ Below W.heap.size W w' ∧ ((A = none ∧ ([⟨k, v⟩] : List S53) = []) ∨ ∀ ad, A = some ad → W.heap.size ≤ ad.block) := by
  have HB := Aside0.mk (Below.refl W.heap.size W)
  have HC0 := Aside0.mk hc0
  clear hc0
  go_enter Try.func10, Try.ntmps10
  go_wp2_with (first | ((with_reducible refine gate_dst (N := 3) rfl ?_); refine box_event ?hg14 (N := 3) ?hd14 (cs := #[.int .i64 1, .int .u64 k, .int .u64 v, .int .i64 q]) (t := 25) ?hr14 ?_; (case hd14 => rfl); (case hg14 => rfl); (case hr14 => first | (go_simp; done) | (go_simp; rfl)); intro g1 hg w1_ hbox hbk; have HGB1 := Aside0.mk (show W.heap.size ≤ g1 from by rw [hg]; have := HB.out.size; omega); have n_HB := Aside0.mk (below_step HB.out hbk); clear HB; have HB := n_HB; clear n_HB; have B1 := Aside0.mk hbox; clear hbk hbox hg) | ((with_reducible refine gate_dst (N := 5) rfl ?_); refine box_event ?hg15 (N := 5) ?hd15 (cs := #[.int .i64 0, .bool false, .int .u64 0, .slice none 0 0]) (t := 30) ?hr15 ?_; (case hd15 => rfl); (case hg15 => rfl); (case hr15 => first | (go_simp; done) | (go_simp; rfl)); intro g2 hg w2_ hbox hbk; have HGB2 := Aside0.mk (show g1 ≠ g2 ∧ W.heap.size ≤ g2 from by rw [hg]; have := blk_lt B1.out; have := HB.out.size; omega); have n_HB := Aside0.mk (below_step HB.out hbk); have n_B1 := Aside0.mk (blk_below B1.out hbk); clear HB B1; have HB := n_HB; have B1 := n_B1; clear n_HB n_B1; have B2 := Aside0.mk hbox; clear hbk hbox hg))
  go_loopg [6, 7] 0 (fun kq v6 v7 wr => v6 = .int .i64 (-1) ∧ v7 = .int .i64 0 ∧ Aside0 (wr.heap[g1]? = some (.cells #[.int .i64 1, .int .u64 k, .int .u64 v, .int .i64 q] 25 (0, 0))) ∧ Aside0 (wr.heap[g2]? = some (.cells #[.int .i64 0, .bool false, .int .u64 0, .slice none 0 0] 30 (0, 0))) ∧ Aside0 (Below W.heap.size W wr))
  case atStart => exact ⟨rfl, rfl, B1, B2, HB⟩
  case round =>
    clear HB B1 B2
    obtain ⟨rfl, rfl, B1, B2, HB⟩ := hrel
    go_wp2_with (first | ((with_reducible refine gate_dst (N := 27) rfl ?_); refine wq_load1 (ty := 3) (p := .tmp 26) (g := g1) (i := 0) (v := ?v16) ?hgd16 ?ho16 ?hp16 Try.underlying3 ?hd16 B1.out ?hv16 ?_; (case hd16 => rfl); (case hgd16 => rfl); (case ho16 => rfl); (case hp16 => rfl); (case hv16 => rfl)))
    go_loopg [8] 0 (fun kq v8 wr => v8 = .int .i64 0 ∧ Aside0 (wr.heap[g1]? = some (.cells #[.int .i64 1, .int .u64 k, .int .u64 v, .int .i64 q] 25 (0, 0))) ∧ Aside0 (wr.heap[g2]? = some (.cells #[.int .i64 0, .bool false, .int .u64 0, .slice none 0 0] 30 (0, 0))) ∧ Aside0 (Below W.heap.size W wr))
    case atStart => exact ⟨rfl, B1, B2, HB⟩
    case round =>
      clear HB B1 B2
      obtain ⟨rfl, B1, B2, HB⟩ := hrel
      go_upto_region 9 with fail
      have n_HB := Aside0.mk (below_drew1 HB.out)
      have n_B1 := Aside0.mk (blk_drew B1.out)
      have n_B2 := Aside0.mk (blk_drew B2.out)
      clear HB B1 B2
      have HB := n_HB
      have B1 := n_B1
      have B2 := n_B2
      clear n_HB n_B1 n_B2
      refine start_ (n := 14) (S := fun w' => True) (ds := []) #[false, false, false, false, false, false, false, false, false, false, false, false, false, false] (by kernel_rfl) rfl rfl trivial (fun hHeld => ?_); refine with_tabW li_tb_insn.tab9 li_tb_insn.bits9 (fun HT_ HW_ => ?_)
      generalize wr.drew = yv1_ at HB B1 B2 hHeld ⊢
      refine pure_ (i := 0) (N := some 33) (v := ?_) (a' := ?_) (li_tb_insn_lb 14 1) rfl rfl (any_of HT_.out (by kernel_rfl)) (fun _ _ _ h => h) (Or.inl ⟨by rfl, ?_⟩) ?_ ?_; rotate_left
      · intro w'; go_simp; with_reducible rfl
      rotate_left
      · simp only [Act.put, List.setIfInBounds_toArray, List.set_cons_zero, List.set_cons_succ, i64_w, i32_w]; rfl
      refine pure_ (i := 1) (N := some 34) (v := ?_) (a' := ?_) (li_tb_insn_lb 14 3) rfl rfl (any_of HT_.out (by kernel_rfl)) (fun _ _ _ h => h) (Or.inl ⟨by rfl, ?_⟩) ?_ ?_; rotate_left
      · intro w'; go_simp; with_reducible rfl
      rotate_left
      · simp only [Act.put, List.setIfInBounds_toArray, List.set_cons_zero, List.set_cons_succ, i64_w, i32_w]; rfl
      refine pure_ (i := 2) (N := some 35) (v := ?_) (a' := ?_) (li_tb_insn_lb 14 7) rfl rfl (any_of HT_.out (by kernel_rfl)) (fun _ _ _ h => h) (Or.inl ⟨by rfl, ?_⟩) ?_ ?_; rotate_left
      · intro w'; go_simp; with_reducible rfl
      rotate_left
      · simp only [Act.put, List.setIfInBounds_toArray, List.set_cons_zero, List.set_cons_succ, i64_w, i32_w]; rfl
      refine pure_ (i := 3) (N := some 36) (v := ?_) (a' := ?_) (li_tb_insn_lb 14 15) rfl rfl (any_of HT_.out (by kernel_rfl)) (fun _ _ _ h => h) (Or.inl ⟨by rfl, ?_⟩) ?_ ?_; rotate_left
      · intro w'; go_simp; with_reducible rfl
      rotate_left
      · simp only [Act.put, List.setIfInBounds_toArray, List.set_cons_zero, List.set_cons_succ, i64_w, i32_w]; rfl
      refine pure_ (i := 4) (N := some 37) (v := ?_) (a' := ?_) (li_tb_insn_lb 14 31) rfl rfl (any_of HT_.out (by kernel_rfl)) (fun _ _ _ h => h) (Or.inl ⟨by rfl, ?_⟩) ?_ ?_; rotate_left
      · intro w'; go_simp; with_reducible rfl
      rotate_left
      · simp only [Act.put, List.setIfInBounds_toArray, List.set_cons_zero, List.set_cons_succ, i64_w, i32_w]; rfl
      refine pure_ (i := 5) (N := some 38) (v := undef) (a' := ?_) (li_tb_insn_lb 14 63) rfl rfl (any_of HT_.out (by kernel_rfl)) (fun _ _ _ h => h) (Or.inr ⟨by rfl, rfl⟩) ?_ ?_; rotate_left
      · simp only [Act.put, List.setIfInBounds_toArray, List.set_cons_zero, List.set_cons_succ, i64_w, i32_w]; rfl
      refine pure_ (i := 6) (N := some 39) (v := undef) (a' := ?_) (li_tb_insn_lb 14 127) rfl rfl (any_of HT_.out (by kernel_rfl)) (fun _ _ _ h => h) (Or.inr ⟨by rfl, rfl⟩) ?_ ?_; rotate_left
      · simp only [Act.put, List.setIfInBounds_toArray, List.set_cons_zero, List.set_cons_succ, i64_w, i32_w]; rfl
      refine pure_ (i := 7) (N := some 40) (v := undef) (a' := ?_) (li_tb_insn_lb 14 255) rfl rfl (any_of HT_.out (by kernel_rfl)) (fun _ _ _ h => h) (Or.inr ⟨by rfl, rfl⟩) ?_ ?_; rotate_left
      · simp only [Act.put, List.setIfInBounds_toArray, List.set_cons_zero, List.set_cons_succ, i64_w, i32_w]; rfl
      refine pure_ (i := 8) (N := some 41) (v := undef) (a' := ?_) (li_tb_insn_lb 14 511) rfl rfl (any_of HT_.out (by kernel_rfl)) (fun _ _ _ h => h) (Or.inr ⟨by rfl, rfl⟩) ?_ ?_; rotate_left
      · simp only [Act.put, List.setIfInBounds_toArray, List.set_cons_zero, List.set_cons_succ, i64_w, i32_w]; rfl
      refine pure_ (i := 9) (N := some 42) (v := undef) (a' := ?_) (li_tb_insn_lb 14 1023) rfl rfl (any_of HT_.out (by kernel_rfl)) (fun _ _ _ h => h) (Or.inr ⟨by rfl, rfl⟩) ?_ ?_; rotate_left
      · simp only [Act.put, List.setIfInBounds_toArray, List.set_cons_zero, List.set_cons_succ, i64_w, i32_w]; rfl
      refine pure_ (i := 10) (N := some 43) (v := undef) (a' := ?_) (li_tb_insn_lb 14 2047) rfl rfl (any_of HT_.out (by kernel_rfl)) (fun _ _ _ h => h) (Or.inr ⟨by rfl, rfl⟩) ?_ ?_; rotate_left
      · simp only [Act.put, List.setIfInBounds_toArray, List.set_cons_zero, List.set_cons_succ, i64_w, i32_w]; rfl
      refine pure_ (i := 11) (N := some 44) (v := undef) (a' := ?_) (li_tb_insn_lb 14 4095) rfl rfl (any_of HT_.out (by kernel_rfl)) (fun _ _ _ h => h) (Or.inr ⟨by rfl, rfl⟩) ?_ ?_; rotate_left
      · simp only [Act.put, List.setIfInBounds_toArray, List.set_cons_zero, List.set_cons_succ, i64_w, i32_w]; rfl
      refine pure_ (i := 12) (N := some 45) (v := undef) (a' := ?_) (li_tb_insn_lb 14 8191) rfl rfl (any_of HT_.out (by kernel_rfl)) (fun _ _ _ h => h) (Or.inr ⟨by rfl, rfl⟩) ?_ ?_; rotate_left
      · simp only [Act.put, List.setIfInBounds_toArray, List.set_cons_zero, List.set_cons_succ, i64_w, i32_w]; rfl
      refine pure_ (i := 13) (N := some 46) (v := ?_) (a' := ?_) (li_tb_insn_lb 14 16383) rfl rfl (any_of HT_.out (by kernel_rfl)) (fun _ _ _ h => h) (Or.inl ⟨by rfl, ?_⟩) ?_ ?_; rotate_left
      · intro w'; go_simp; with_reducible rfl
      rotate_left
      · simp only [Act.put, List.setIfInBounds_toArray, List.set_cons_zero, List.set_cons_succ, i64_w, i32_w]; rfl
      refine done_ (done_of HT_.out (by kernel_rfl)) ?_
      go_wp2_with (first | (refine li_ev0n (c := c0) rfl (.tmp 49) (.tmp 52) rfl rfl (by rfl) ?_; intro v1 w1 ho hbk; have hNN : ∃ N, g1 < N ∧ g2 < N ∧ W.heap.size ≤ N ∧ N ≤ w1.heap.size ∧ OW w1 N v1 _ := ⟨_, blk_lt B1.out, blk_lt B2.out, HB.out.size, hbk.size, ho⟩; have n_HB := Aside0.mk (below_step HB.out hbk); have n_B1 := Aside0.mk (blk_below B1.out hbk); have n_B2 := Aside0.mk (blk_below B2.out hbk); clear HB B1 B2; have HB := n_HB; have B1 := n_B1; have B2 := n_B2; clear n_HB n_B1 n_B2; clear hbk ho; obtain ⟨N, n1, n2, n3, n4, n5⟩ := hNN; have HN := Aside0.mk (And.intro n1 (And.intro n2 n3)); have HS := Aside0.mk n4; have HO := Aside0.mk n5; clear n1 n2 n3 n4 n5) | ((with_reducible refine gate_dst (N := 56) rfl ?_); refine wq_load1 (ty := 23) (p := .tmp 55) (g := g1) (i := 1) (v := ?v17) ?hgd17 ?ho17 ?hp17 Try.underlying23 ?hd17 B1.out ?hv17 ?_; (case hd17 => rfl); (case hgd17 => rfl); (case ho17 => rfl); (case hp17 => rfl); (case hv17 => rfl)) | ((with_reducible refine gate_dst (N := 58) rfl ?_); refine wq_load1 (ty := 23) (p := .tmp 57) (g := g1) (i := 2) (v := ?v18) ?hgd18 ?ho18 ?hp18 Try.underlying23 ?hd18 B1.out ?hv18 ?_; (case hd18 => rfl); (case hgd18 => rfl); (case ho18 => rfl); (case hp18 => rfl); (case hv18 => rfl)) | (refine li_ev1 (v := v1) (w := w1.alloc (.cells #[.int .u64 k, .int .u64 v] 53)) (N := N) (xs := []) (ys := [⟨k, v⟩]) (ad := ⟨w1.heap.size, 0, none⟩) (m := 1) (c := 1) rfl (.tmp 54) (.tmp 60) rfl rfl rfl (OW.below HO.out (below_alloc (Below.refl _ _) _)) (Nat.le_trans HS.out (below_alloc (Below.refl _ _) _).size) rfl (cell_two_new _ _ _ _) (by simp) (by simp) ?_; intro v2 w2 ho hbk0; have hbk : Below N w1 w2 := (Below.mono (below_alloc (Below.refl _ _) _) HS.out).trans hbk0; clear hbk0; have n_HO := Aside0.mk ho; have n_HS := Aside0.mk (Nat.le_trans HS.out hbk.size); have n_HB := Aside0.mk (HB.out.trans (hbk.mono HN.out.2.2)); have n_B1 := Aside0.mk ((hbk.block g1 HN.out.1).trans B1.out); have n_B2 := Aside0.mk ((hbk.block g2 HN.out.2.1).trans B2.out); clear HB HO HS B1 B2 ho hbk; have HB := n_HB; have HO := n_HO; have HS := n_HS; have B1 := n_B1; have B2 := n_B2; clear n_HB n_HO n_HS n_B1 n_B2) | (refine li_ev1n (c := c0) (v := v2) rfl (.tmp 62) (.tmp 65) rfl rfl rfl HO.out ?_) | ((with_reducible refine gate_store (p := 5) rfl ?_); refine wq_store (ty := 30) (p := .tmp 5) (x := .tmp 68) (g := g2) (i := 0) (k := 4) (v := ?v19) (vs := ?vs19) (cs' := ?cs19) ?hgd19 ?hdst19 ?ho19 ?hp19 ?hx19 ?hvc19 ?hi19 ?hk19 ?h119 B2.out ?hsz19 ?hcs19 ?_; (case hi19 => kernel_rfl); (case hgd19 => rfl); (case hdst19 => rfl); (case ho19 => rfl); (case hp19 => rfl); (case hx19 => go_simp; with_reducible rfl); (case hvc19 => simp only [Value.cells]; with_reducible rfl); (case hk19 => rfl); (case h119 => rfl); (case hsz19 => exact Nat.le_of_ble_eq_true rfl); (case hcs19 => simp only [wqPut, List.setIfInBounds_toArray, List.set_cons_succ, List.set_cons_zero, Nat.reduceAdd]; with_reducible rfl); intro yw2_ hb hgr; have n_HB := Aside0.mk (HB.out.grown hgr HB.out.size (fun k hk => by cases hk; exact HGB2.out.2)); have n_HO := Aside0.mk (OW.grown HO.out hgr HN.out.2.1); have n_HS := Aside0.mk (Nat.le_trans HS.out hgr.size); have n_B1 := Aside0.mk (wq_blk B1.out hgr HGB2.out.1); have n_B2 := Aside0.mk hb; clear HB HO HS B1 B2 hb hgr; have HB := n_HB; have HO := n_HO; have HS := n_HS; have B1 := n_B1; have B2 := n_B2; clear n_HB n_HO n_HS n_B1 n_B2))
      have HO2 := Aside0.mk (show OW _ N v2 [⟨k, v⟩] from HO.out)
      clear HO
      have HO := HO2
      obtain ⟨A1, c1, e1, e2, e3, e4⟩ := OW.C3 HO.out
      subst e1
      refine bodyPost_ret (res_tc rfl _ _ _ _ _ _ _ rfl B2.out Try.underlying30 rfl (by kernel_rfl)) rfl ?_
      exact ⟨A1, c1, rfl, e2, e3, HB.out, .inr (fun q hq => Nat.le_trans HN.out.2.2 (e4 q hq))⟩

theorem li_TB (A0 : Option Addr) (c0 : Nat) (l : List S53) (kd k v q : Int) (hl : l.length ≤ 1000000) (hs : Rising l) (W : World) (hr0 : Kd.C k53 W A0 l.length l) (hc0 : l.length ≤ c0) :
    Calls Try.prog 10 #[.slice A0 l.length c0, .agg #[.int .i64 kd, .int .u64 k, .int .u64 v, .int .i64 q]] W fun e w' => ∃ A c, e = .returned (.tuple #[.slice A (apL l kd k v).length c, .agg #[.int .i64 0, .bool (apD l kd k), .int .u64 (apV l kd k), .slice none 0 0]]) ∧ (apL l kd k v).length ≤ c ∧ Kd.C k53 w' A (apL l kd k v).length (apL l kd k v) ∧ Below W.heap.size W w' ∧ ((A = A0 ∧ apL l kd k v = l) ∨ ∀ ad, A = some ad → W.heap.size ≤ ad.block) := by
  have hle := kix_le l k
  cases hth : kthere l k with
  | true =>
    have hlt := kthere_lt hth
    by_cases h1 : kd = 1
    · have e1 : apD l kd k = false := decide_eq_false (by rw [h1, hth]; simp)
      have e2 : apV l kd k = 0 := if_neg (by rw [h1]; simp)
      have e3 : apL l kd k v = l := by unfold apL; rw [if_neg (by rw [hth]; simp), if_neg (by rw [h1]; simp)]
      rw [e1, e2, e3]
      exact li_tb_ins0 A0 c0 l kd k v q hl hs W hr0 hc0 _ rfl hle h1 hth hlt
    · by_cases h2 : kd = 2
      · have e1 : apD l kd k = true := decide_eq_true (.inr ⟨.inl h2, hth⟩)
        have e2 : apV l kd k = 0 := if_neg (by rw [h2]; simp)
        have e3 : apL l kd k v = dell l (kix l k) := by unfold apL; rw [if_neg (by rw [hth]; simp), if_pos ⟨h2, hth⟩]
        rw [e1, e2, e3]
        exact li_tb_del A0 c0 l kd k v q hl hs W hr0 hc0 _ rfl hle h2 hth hlt
      · by_cases h3 : kd = 3
        · have e1 : apD l kd k = true := decide_eq_true (.inr ⟨.inr h3, hth⟩)
          have e2 : apV l kd k = (rd_T53 l (kix l k : Int)).f1 := if_pos ⟨h3, hth⟩
          have e3 : apL l kd k v = l := by unfold apL; rw [if_neg (by rw [hth]; simp), if_neg (fun h => h2 h.1)]
          rw [e1, e2, e3]
          exact li_tb_get A0 c0 l kd k v q hl hs W hr0 hc0 _ rfl hle h3 hth hlt
        · have e1 : apD l kd k = false := decide_eq_false (fun h => h.elim (fun h => h1 h.1) (fun h => h.1.elim h2 h3))
          have e2 : apV l kd k = 0 := if_neg (fun h => h3 h.1)
          have e3 : apL l kd k v = l := by unfold apL; rw [if_neg (fun h => h1 h.1), if_neg (fun h => h2 h.1)]
          rw [e1, e2, e3]
          exact li_tb_oth A0 c0 l kd k v q hl hs W hr0 hc0 _ rfl hle h1 h2 h3 hth hlt
  | false =>
    by_cases h1 : kd = 1
    · have e1 : apD l kd k = true := decide_eq_true (.inl ⟨h1, hth⟩)
      have e2 : apV l kd k = 0 := if_neg (by rw [h1]; simp)
      have e3 : apL l kd k v = insl l (kix l k) ⟨k, v⟩ := if_pos ⟨h1, hth⟩
      rw [e1, e2, e3]
      cases A0 with
      | some ad => exact li_tb_ins (some ad) c0 l kd k v q hl hs W hr0 hc0 _ rfl hle h1 hth ad rfl
      | none =>
        obtain rfl := C_none_nil hr0
        subst h1
        exact li_tb_insn c0 k v q W (Nat.zero_le _)
    · have e1 : apD l kd k = false := decide_eq_false (fun h => h.elim (fun h => h1 h.1) (fun h => by have h9 := h.2; rw [hth] at h9; cases h9))
      have e2 : apV l kd k = 0 := if_neg (by rw [hth]; simp)
      have e3 : apL l kd k v = l := by unfold apL; rw [if_neg (fun h => h1 h.1), if_neg (by rw [hth]; simp)]
      rw [e1, e2, e3]
      by_cases h2 : kd = 2
      · exact li_tb_del0 A0 c0 l kd k v q hl hs W hr0 hc0 _ rfl hle h2 hth
      · by_cases h3 : kd = 3
        · exact li_tb_get0 A0 c0 l kd k v q hl hs W hr0 hc0 _ rfl hle h3 hth
        · exact li_tb_oth0 A0 c0 l kd k v q hl hs W hr0 hc0 _ rfl hle h1 h2 h3 hth



end Go.Proofs.Ytcleoahoppggmaa.PLinAlone
