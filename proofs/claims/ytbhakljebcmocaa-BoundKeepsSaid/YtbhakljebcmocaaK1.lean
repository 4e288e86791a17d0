/- BoundKeeps (chapter 23): every call keeps to its bound; part 1 of the proof: words, walks by an engine, and plain lemmas, each used by the theorem. -/
import Derived.Carry
import Derived.Deep.RegionLaw
import Derived.Lib.AppendZerosOnto
import Derived.Lib.Overlaps
import Derived.Maps.OwnOps
import Derived.Maps.OwnSet
import Derived.Maps.Views
import Derived.WideKeyArgs2
import Derived.Test.YtbhakljebcmocaaK0
set_option linter.unusedVariables false
set_option linter.unusedSimpArgs false
section
namespace Go.Proofs.Ytbhakljebcmocaa.PBoundKeeps
open Go.RowKit Go.Proofs.YtbhakljebcmocaaW.PrintWords Go.Proofs.YtbhakljebcmocaaW.PrintLast Go.Proofs.YtbhakljebcmocaaW.PrintMore
set_option linter.unusedVariables false
set_option linter.unusedSimpArgs false
def RowC (w : World) (A : Option Addr) (cs : List Value) : Prop := (∀ ad, A = some ad → ad.block < w.heap.size ∧ ∀ j u, cs[j]? = some u → w.cell? (ad.add j) = some u) ∧ (A = none → cs = [])
def rowBl (A : Option Addr) (k : Nat) : Prop := ∃ ad, A = some ad ∧ k = ad.block
theorem RowC.keep {w w1 : World} {A : Option Addr} {cs : List Value} (h : RowC w A cs) (hs : w.heap.size ≤ w1.heap.size) (hk : ∀ k, rowBl A k → k < w.heap.size → w1.heap[k]? = w.heap[k]?) : RowC w1 A cs :=
 ⟨fun ad e => ⟨Nat.lt_of_lt_of_le (h.1 ad e).1 hs, fun j u hj => by
  rw [World.cell?_of_block (w := w) (w' := w1) (by
   have e1 : (ad.add j).block = ad.block := by unfold Addr.add; split <;> rfl
   rw [e1]
   exact hk _ ⟨ad, e, rfl⟩ (h.1 ad e).1)]
  exact (h.1 ad e).2 j u hj⟩, h.2⟩
theorem Addr.add_add (a : Addr) (i j : Nat) : (a.add i).add j = a.add (i + j) := by
 unfold Addr.add
 by_cases hi : i = 0
 ·subst hi; simp
 ·by_cases hj : j = 0
  ·subst hj; simp [hi]
  ·simp [hi, hj, Nat.add_assoc]
section
variable {P : Program} {E : TE} {Q : Exit → Act → World → Prop} {W0 : World} {F : Fr} {kn : List Nat} {R : List PRep} {S : St} {m : Md}
theorem row_load1 (hE : E.ok P) {t k : Nat} (hsz : E.sz.lookup t = some (false, k)) {w : World} {ad : Addr} {cs : List Value} (h : RowC w (some ad) cs) {j : Nat} {u : Value} (hj : cs[j]? = some u) : (Instr.loadAt t (.pointer (some (ad.add j)))).run P w = .ok u w := by
 obtain ⟨⟨d, d1, d2⟩, d3⟩ := hE.sz _ _ _ hsz
 have hagg : (isAgg t).run P w = .ok false w := by
  unfold isAgg
  rw [Sem.run_bind, run_underlying d1 w]
  cases d <;> simp_all [isAg]
 have hc := (h.1 ad rfl).2 j u hj
 simp [Instr.loadAt, Instr.sureAddr, loadVar, Sem.run_bind, hagg, load, Sem.run, hc]
theorem row_loadA (hE : E.ok P) {t k : Nat} (hsz : E.sz.lookup t = some (true, k)) {w : World} {ad : Addr} {cs : List Value} (h : RowC w (some ad) cs) {j : Nat} {vs : List Value} (hj : (cs.drop j).take k = vs) (hk : vs.length = k) : (Instr.loadAt t (.pointer (some (ad.add j)))).run P w = .ok (.agg vs.toArray) w := by
 obtain ⟨⟨d, d1, d2⟩, d3⟩ := hE.sz _ _ _ hsz
 have hagg : (isAgg t).run P w = .ok true w := by
  unfold isAgg
  rw [Sem.run_bind, run_underlying d1 w]
  cases d <;> simp_all [isAg]
 obtain ⟨ti, h10, h11⟩ := map_some' d3
 have hl : (loadCells (ad.add j) k).run P w = .ok vs.toArray w := by
  rw [← hk]
  refine run_loadCells_list (P := P) w (ad.add j) vs (fun i v hi => ?_)
  rw [Addr.add_add]
  refine (h.1 ad rfl).2 (j + i) v ?_
  rw [← hi, ← hj, List.getElem?_take, List.getElem?_drop]
  have hik : i < vs.length := (List.getElem?_eq_some_iff.mp hi).1
  rw [if_pos (by omega)]
 simp [Instr.loadAt, Instr.sureAddr, loadVar, Sem.run_bind, hagg, sizeOf, typeInfo, h10, h11, hl]
theorem news_row {γ : Nat → Nat} {W : World} {A : Option Addr} {mm c : Nat} {cs : List Value} (h : RowC W A cs) (h0 : A = none → mm = 0) : NewsAt γ mm (.v (.slice A mm c)) cs W := by
 refine ⟨A, c, rfl, ?_⟩
 cases A with
 | none => exact .inl (h0 rfl)
 | some ad => exact .inr ⟨ad, rfl, (h.1 ad rfl).2⟩
theorem news_own {γ : Nat → Nat} {L : List (Option SB)} {W : World} {i mm c : Nat} {b : SB} {news : List Value} (hB : Bq W0 F γ L R W) (hb : getB L i = some b) (hcs : b.cs = news.map .v) : NewsAt γ mm (.sl i mm c) news W := by
 refine ⟨_, c, rfl, .inr ⟨_, rfl, ?_⟩⟩
 have h1 := (hB.at_ i b hb).1
 have e : (news.map SV.v).map (SV.den γ) = news := by rw [List.map_map]; exact (List.map_congr_left (fun a _ => rfl)).trans (List.map_id _)
 rw [hcs, e] at h1
 intro j u hj
 exact World.news_of_block h1 j u (by simpa using hj)
theorem rf_der (r : PRep) (h1 : ∀ W, RepAt R W → r.At W) (h2 : ∀ k, r.bl k → ∃ q, q ∈ R ∧ q.bl k) (hG : Go P Q W0 F kn (r :: R) S m) : Go P Q W0 F kn R S m := by
 intro γ W hk hl hB hT hg
 refine hG γ W hk hl (hB.reps (fun q hq => ?_)) hT ?_
 ·rcases List.mem_cons.mp hq with rfl | hq
  ·refine .inr ⟨h1 W hB.rep, fun i b hb hw hk => ?_, fun k hk => ?_⟩
   ·obtain ⟨u, hu, hbl⟩ := h2 _ hk
    exact hB.sep u hu i b hb hw hbl
   ·obtain ⟨u, hu, hbl⟩ := h2 _ hk
    exact hB.fr u hu k hbl
  ·exact .inl hq
 ·cases m with
  | dr D _ _ cl _ _ => exact good_put (cl := cl) hg (Nat.le_refl _) cl (fun h => ⟨h, fun _ _ => rfl⟩) (fun r hr => List.mem_cons_of_mem _ hr)
  | sel D _ _ cl _ _ _ => exact good_put (cl := cl) hg (Nat.le_refl _) cl (fun h => ⟨h, fun _ _ => rfl⟩) (fun r hr => List.mem_cons_of_mem _ hr)
  | ks _ => trivial
  | pl _ _ _ => trivial
def plainM : Md → Bool
 | .ks _ => true
 | .pl _ _ _ => true
 | _ => false
def gvS (i g : Nat) : SV → SV
 | .sl j n c => match j == i with
  | true => .v (.slice (some ⟨g, 0, none⟩) n c)
  | false => .sl j n c
 | s => s
def gvB (i g : Nat) : Option SB → Option SB
 | some b => some ⟨b.w, b.t, b.cs.map (gvS i g)⟩
 | none => none
def giveL (i g : Nat) : List Nat → List (Option SB) → List (Option SB)
 | [], L => L
 | k :: r, L => giveL i g r (L.set k (gvB i g (getB L k)))
def give (S : St) (i g : Nat) (ks : List Nat) : St := ⟨giveL i g ks (S.L.set i none), S.T.map (gvS i g)⟩
theorem gvS_den {γ : Nat → Nat} {i : Nat} : ∀ {s : SV}, (gvS i (γ i) s).den γ = s.den γ
 | .v _ => rfl
 | .ad _ _ => rfl
 | .sl j n c => by
  show SV.den γ (match j == i with | true => SV.v (.slice (some ⟨γ i, 0, none⟩) n c) | false => .sl j n c) = _
  split
  ·rename_i e
   have : j = i := by simpa using e
   subst this
   rfl
  ·rfl
theorem gvS_ok {n i g : Nat} : ∀ {s : SV}, s.ok n → (gvS i g s).ok n
 | .v _, _ => trivial
 | .ad _ _, h => h
 | .sl j m c, h => by
  show SV.ok n (match j == i with | true => SV.v (.slice (some ⟨g, 0, none⟩) m c) | false => .sl j m c)
  split
  ·trivial
  ·exact h
def blkRep (g t : Nat) (vs : List Value) : PRep := ⟨fun w => w.heap[g]? = some (.cells vs.toArray t (0, 0)), fun k => k = g, fun w k h hk => by subst hk; exact blk_lt h, fun w w1 h _ hk => (hk g rfl (blk_lt h)).trans h⟩
structure Sim (γ : Nat → Nat) (b b' : SB) : Prop where
 w : b.w = b'.w
 t : b.t = b'.t
 d : b.cs.map (SV.den γ) = b'.cs.map (SV.den γ)
 o : ∀ n, (∀ s, s ∈ b'.cs → s.ok n) → ∀ s, s ∈ b.cs → s.ok n
theorem Sim.refl (γ : Nat → Nat) (b : SB) : Sim γ b b := ⟨rfl, rfl, rfl, fun _ h => h⟩
theorem Sim.trans {γ : Nat → Nat} {a b c : SB} (h : Sim γ a b) (k : Sim γ b c) : Sim γ a c := ⟨h.w.trans k.w, h.t.trans k.t, h.d.trans k.d, fun n q => h.o n (k.o n q)⟩
theorem giveL_len (i g : Nat) : ∀ (ks : List Nat) (L : List (Option SB)), (giveL i g ks L).length = L.length
 | [], _ => rfl
 | k :: r, L => by unfold giveL; rw [giveL_len i g r, List.length_set]
theorem giveL_get (γ : Nat → Nat) (i : Nat) : ∀ (ks : List Nat) (L : List (Option SB)) (j : Nat) (b : SB), getB (giveL i (γ i) ks L) j = some b → ∃ b', getB L j = some b' ∧ Sim γ b b'
 | [], L, j, b, h => ⟨b, h, .refl γ b⟩
 | k :: r, L, j, b, h => by
  unfold giveL at h
  obtain ⟨b1, h1, h2⟩ := giveL_get γ i r _ j b h
  by_cases e : k = j
  ·subst e
   have hk := getB_lt h1
   rw [List.length_set] at hk
   rw [getB_set_self hk] at h1
   cases hq : getB L k with
   | none => rw [hq] at h1; cases h1
   | some b0 =>
    rw [hq] at h1
    obtain rfl := Option.some.inj h1
    refine ⟨b0, rfl, h2.trans ⟨rfl, rfl, ?_, fun n q s hs => ?_⟩⟩
    ·show (b0.cs.map (gvS i (γ i))).map (SV.den γ) = _
     rw [List.map_map]
     exact List.map_congr_left (fun s _ => gvS_den)
    ·obtain ⟨s', hs', rfl⟩ := List.mem_map.mp hs
     exact gvS_ok (q s' hs')
  ·rw [getB_set_ne e] at h1
   exact ⟨b1, h1, h2⟩
def ldD : Md → List Nat
 | .dr D _ _ _ _ _ => D.ld
 | .sel D _ _ _ _ _ _ => D.ld
 | _ => []
theorem rf_give (hF : ∀ k, F.w k → F.g k) (i : Nat) (ks : List Nat) {t : Nat} {cs : List SV} (vs : List Value) (hm : ∀ g, (ldD m).map (getB (give S i g ks).L) = (ldD m).map (getB S.L)) (hb : getB S.L i = some ⟨true, t, cs⟩) (hcs : cs = vs.map .v) (hG : ∀ g, Go P Q W0 F kn (blkRep g t vs :: R) (give S i g ks) m) : Go P Q W0 F kn R S m := by
 intro γ W hk hl hB hT hg
 subst hcs
 have hil := getB_lt hb
 have hat := hB.at_ i _ hb
 have e : (vs.map SV.v).map (SV.den γ) = vs := by rw [List.map_map]; exact (List.map_congr_left (fun a _ => rfl)).trans (List.map_id _)
 have hd := hB.drop i
 have hgb : ∀ (j : Nat) (b : SB), getB (give S i (γ i) ks).L j = some b → ∃ b', getB (S.L.set i none) j = some b' ∧ Sim γ b b' := fun j b m => giveL_get γ i ks _ j b m
 have hlen : (give S i (γ i) ks).L.length = S.L.length := by unfold give; rw [giveL_len, List.length_set]
 have hact : (give S i (γ i) ks).act γ = S.act γ := by
  unfold St.act give
  congr 2
  simp only [List.map_map]
  exact List.map_congr_left (fun s _ => gvS_den)
 have hB2 : Bq W0 F γ (give S i (γ i) ks).L (blkRep (γ i) t vs :: R) W := by
  have h1 : Bq W0 F γ (give S i (γ i) ks).L R W := by
   refine ⟨hd.hb, fun j b m => ?_, fun a b x y hab ma mb hw => ?_, fun j b m => ?_, hd.rep, fun r m j b mj hw => ?_, hd.fr⟩
   ·obtain ⟨b', h1, h2⟩ := hgb j b m
    refine ⟨?_, fun hw => (hd.at_ j b' h1).2 (h2.w ▸ hw)⟩
    rw [h2.d, h2.t]
    exact (hd.at_ j b' h1).1
   ·obtain ⟨x', h1, q1⟩ := hgb a x ma
    obtain ⟨y', h2, q2⟩ := hgb b y mb
    exact hd.nd a b x' y' hab h1 h2 (by rw [← q1.w, ← q2.w]; exact hw)
   ·obtain ⟨b', h1, h2⟩ := hgb j b m
    have := hd.ok j b' h1
    rw [List.length_set] at this
    rw [hlen]
    exact h2.o _ this
   ·obtain ⟨b', h1, h2⟩ := hgb j b mj
    exact hd.sep r m j b' h1 (h2.w ▸ hw)
  refine h1.reps (fun r hr => ?_)
  rcases List.mem_cons.mp hr with rfl | hr
  ·refine .inr ⟨by rw [e] at hat; exact hat.1, fun j b mj hw hk => ?_, fun k hk => ?_⟩
   ·obtain ⟨b', h1, h2⟩ := hgb j b mj
    have hji : j ≠ i := fun e => by subst e; rw [getB_set_self hil] at h1; cases h1
    rw [getB_set_ne (Ne.symm hji)] at h1
    exact hB.ne h1 hb rfl hji hk
   ·have hk' : k = γ i := hk
    subst hk'
    exact (hat.2 rfl).imp id (hF _)
  ·exact .inl hr
 have hT2 : (give S i (γ i) ks).okT := fun s hs => by
  obtain ⟨s', hs', rfl⟩ := List.mem_map.mp hs
  rw [hlen]
  exact gvS_ok (hT s' hs')
 have := hG (γ i) γ W hk (by rw [hlen]; exact hl) hB2 hT2 (by
  have hgd : ∀ (D : DrI) (cl : Bool), (∀ g, D.ld.map (getB (give S i g ks).L) = D.ld.map (getB S.L)) → D.good cl S.L R → D.good cl (give S i (γ i) ks).L (blkRep (γ i) t vs :: R) := fun D cl h1 h2 =>
   ⟨h2.1, h2.2.1, fun j hj => ⟨by rw [hlen]; exact (h2.2.2.1 j hj).1, fun b hb s hs => by rw [hlen]; exact (h2.2.2.1 j hj).2 b hb s hs⟩, fun h j hj => (List.map_inj_left.mp (h1 (γ i)) j hj).trans (h2.2.2.2.1 h j hj), fun r hr => List.mem_cons_of_mem _ (h2.2.2.2.2 r hr)⟩
  cases m with
  | dr D _ _ cl _ _ => exact hgd D cl hm hg
  | sel D _ _ cl _ _ _ => exact hgd D cl hm hg
  | ks _ => trivial
  | pl _ _ _ => trivial)
 rw [hact] at this
 exact this
theorem shp_mk {o : Oper} {t : TypeId} {l c : SV} (h : shpOf S.T o = some (.mk t l c)) : ∃ a b, o.op = .makeSlice t a b ∧ opv S.T a = some l ∧ opv S.T b = some c := by
 unfold shpOf at h
 split at h
 ·split at h <;> cases h
 ·obtain ⟨_, _, h2⟩ := map_some' h; cases h2
 ·split at h <;> cases h
 ·rename_i t' l' c' ho
  split at h
  ·rename_i a b h1 h2
   obtain ⟨rfl, rfl, rfl⟩ := Shp.mk.inj (Option.some.inj h)
   exact ⟨_, _, ho, h1, h2⟩
  ·cases h
 ·repeat' (split at h <;> try (cases h; done))
 ·cases h
theorem eff_new {o : Oper} {γ : Nat → Nat} {W W1 : World} {e g : Nat} {vs : List Value} {s : SV} {v : Value} {kl : List Nat} {G : St → Prop} (hT : S.okT) (hB : Bq W0 F γ S.L R W) (hrun : (execOp (S.act γ).eval o).run P W = .ok (.value v) W1) (hg : g = W.heap.size) (hblk : W1.heap[g]? = some (.cells vs.toArray e (0, 0))) (hbl : Below W.heap.size W W1)
    (hs : s.ok (S.L.length + 1)) (hsv : s.den (upd γ S.L.length g) = v) (hd : dstV S m = o.dst) (hG : G ⟨S.L ++ [some ⟨true, e, vs.map .v⟩], putT S.T (dstV S m) s⟩) : Eff P Q W0 F kn R S o kl G γ W := by
  have emap : (vs.map SV.v).map (SV.den γ) = vs := by rw [List.map_map]; exact (List.map_congr_left (fun a _ => rfl)).trans (List.map_id _)
  have hB2 := hB.box (g := g) (t := e) (cs := vs.map .v) (fun s hs => by obtain ⟨y, _, rfl⟩ := List.mem_map.mp hs; trivial) hg (by rw [emap]; exact hblk) hbl
  refine ⟨.value v, W1, upd γ S.L.length g, _, hrun, Or.inr ⟨_, rfl⟩, fun j hj => upd_ne hj, by simp, ?_, hB2, fun K hK => ?_, fun j hj hjl => getB_app hjl, hG⟩
  · have h1 : (⟨S.L ++ [some ⟨true, e, vs.map .v⟩], S.T⟩ : St).okT := fun s hs => SV.ok_mono (by simp) (hT s hs)
    exact okT_put h1 (s := s) (by simpa using hs)
  · show K ((S.act γ).put o.dst v) W1
    have e1 := act_put (upd γ S.L.length g) ⟨S.L ++ [some ⟨true, e, vs.map .v⟩], S.T⟩ o.dst s
    have e2 : (⟨S.L ++ [some ⟨true, e, vs.map .v⟩], S.T⟩ : St).act (upd γ S.L.length g) = S.act γ := act_upd γ S g hT
    rw [e2, hsv] at e1
    rw [← e1]
    rw [hd] at hK
    exact hK
theorem made_flat (zs : List Value) (size : Nat) (hl : zs.length = size) (h0 : 0 < size) : ∀ n : Nat, (madeCells zs.toArray (n * size)).toList = (List.replicate n zs).flatten
 | 0 => by simp [madeCells]
 | n + 1 => by
  have ih := made_flat zs size hl h0 n
  unfold madeCells at ih ⊢
  rw [Array.toList_map, Array.toList_range] at ih ⊢
  rw [Nat.succ_mul, List.range_add, List.map_append, ih, List.replicate_succ', List.flatten_append]
  congr 1
  rw [List.map_map]
  simp only [List.flatten_cons, List.flatten_nil, List.append_nil]
  apply List.ext_getElem?
  intro j
  rw [List.getElem?_map]
  rcases Nat.lt_or_ge j size with hj | hj
  ·rw [List.getElem?_range hj]
   have e : (n * size + j) % zs.toArray.size = j := by
    rw [List.size_toArray, hl, Nat.mul_comm, Nat.mul_add_mod, Nat.mod_eq_of_lt hj]
   simp [e, hl, hj, Nat.mod_eq_of_lt hj]
  ·simp [List.getElem?_eq_none, hl, hj]
theorem rf_mk (hE : E.ok P) (cl' : Bool) {t e size by_ : Nat} {k k' : IntKind} {n : Int} (zs : List Value) (h : shp S m = some (.mk t (.v (.int k n)) (.v (.int k' n)))) (hok : okS cl' m = true) (hel : E.el.lookup t = some (e, size, by_)) (hzc : E.zc.lookup e = some zs) (h0 : 0 ≤ n) (h1 : n ≤ 1000000) (hby : by_ ≤ 1000000)
    (hG : Go P Q W0 F kn R ⟨S.L ++ [some ⟨true, e, ((List.replicate n.toNat zs).flatten).map .v⟩], putT S.T (dstV S m) (.sl S.L.length n.toNat n.toNat)⟩ (setCl cl' (afterV m))) : Go P Q W0 F kn R S m := by
  obtain ⟨o, q1, q2, q3⟩ := shp_op h
  obtain ⟨a, b, ho, ha, hb⟩ := shp_mk q2
  obtain ⟨hu, ti, z, hi, hz, hs1, hs2, hs3, hs4, hs5⟩ := hE.el _ _ _ _ hel
  obtain ⟨z', hz1, hz2⟩ := hE.zc _ _ hzc
  have hzz : z' = z := by rw [hi] at hz1; simp [hz] at hz1; exact hz1.symm
  subst hzz
  refine rf_eff cl' q1 hok (fun γ W hk hkl hB hT => ?_)
  have hbb : (ti.bytes : Int) * n ≤ 281474976710656 := by
    have h3 : (ti.bytes : Int) * n ≤ 1000000 * 1000000 := Int.mul_le_mul (by omega) h1 h0 (by omega)
    omega
  have hr := run_make (P := P) W t e ti z' hu hi hz k k' n n h0 (Int.le_refl _) hbb (by omega)
  have hmade : madeCells z'.cells (n.toNat * ti.size) = ((List.replicate n.toNat zs).flatten).toArray := by
    apply Array.ext'
    rw [hs1]
    have hzl : zs.length = size := by rw [← hz2, Array.length_toList]; exact hs3
    have hza : z'.cells = zs.toArray := by rw [← hz2, Array.toArray_toList]
    rw [hza]
    exact made_flat zs size hzl hs4 n.toNat
  rw [hmade] at hr
  refine eff_new hT hB (v := .slice (some ⟨W.heap.size, 0, none⟩) n.toNat n.toNat) (g := W.heap.size) ?_ rfl (blk_new W _) (below_alloc (Below.refl _ _) _) (Nat.lt_succ_self _) (by show Value.slice (some ⟨upd γ S.L.length W.heap.size S.L.length, 0, none⟩) _ _ = _; rw [upd_eq]) q3 hG
  have ea : (S.act γ).eval a = .int k n := opv_eval ha
  have eb : (S.act γ).eval b = .int k' n := opv_eval hb
  unfold execOp
  simp [ho, ea, eb, hr]
end
end Go.Proofs.Ytbhakljebcmocaa.PBoundKeeps
end
section
namespace Go.Proofs.Ytbhakljebcmocaa.PBoundKeeps
open Go.RowKit Go.Proofs.YtbhakljebcmocaaW.PrintWords Go.Proofs.YtbhakljebcmocaaW.PrintLast Go.Proofs.YtbhakljebcmocaaW.PrintMore
set_option linter.unusedVariables false
set_option linter.unusedSimpArgs false
section
variable {P : Program} {E : TE} {Q : Exit → Act → World → Prop} {W0 : World} {F : Fr} {kn : List Nat} {R : List PRep} {S : St} {m : Md}
theorem rf_apN (hE : E.ok P) (cl' : Bool) {t e size by_ mm : Nat} {x : SV} {news : List Value} (h : shp S m = some (.ap t (.v (.slice none 0 0)) x)) (hok : okS cl' m = true) (hel : E.el.lookup t = some (e, size, by_)) (hnews : news.length = mm * size) (hone : news.all (fun u => u.oneCell') = true) (hm0 : 0 < mm) (hmm : mm ≤ 1000000) (hby : by_ ≤ 1000000)
    (hx : ∀ γ W, Known kn γ → Bq W0 F γ S.L R W → NewsAt γ mm x news W)
    (hG : ∀ c' sp', (news ++ sp').length = c' * size → mm ≤ c' → c' ≤ maxLen → Go P Q W0 F kn R ⟨S.L ++ [some ⟨true, e, (news ++ sp').map .v⟩], putT S.T (dstV S m) (.sl S.L.length mm c')⟩ (setCl cl' (afterV m))) : Go P Q W0 F kn R S m := by
  obtain ⟨o, q1, q2, q3⟩ := shp_op h
  obtain ⟨a, b, ho, ha, hbx⟩ := shp_ap q2
  refine rf_eff cl' q1 hok (fun γ W hk hkl hB hT => ?_)
  obtain ⟨hu, ti, z, hi, hz, hs1, hs2, hs3, hs4, hs5⟩ := hE.el _ _ _ _ hel
  obtain ⟨A, c2, hxe, hnw⟩ := hx γ W hk hB
  have hA : ∃ ad, A = some ad ∧ ∀ j u, news[j]? = some u → W.cell? (ad.add j) = some u := by
    rcases hnw with h0 | h1
    · omega
    · exact h1
  obtain ⟨ad, rfl, hnw'⟩ := hA
  have hown : W.ownsRow 0 e size (.slice none 0 0) 0 [] := ⟨by simp, .inl ⟨rfl, rfl⟩⟩
  obtain ⟨v', w', r1, r2, r3, r4, r5⟩ := run_append_own_at (P := P) W 0 t o.type e ti z size by_ hu hi hz hs1 hs2 hs3 hs4 _ 0 [] hown ad mm c2 news hnews hnw' (by simpa [List.all_eq_true] using hone) (by simp only [maxLen]; omega) (by
    have : (0 + mm) * by_ ≤ 1000000 * 1000000 := Nat.mul_le_mul (by omega) hby
    omega) (Nat.zero_le _)
  rw [Nat.zero_add, List.nil_append] at r2
  rcases r2.2 with ⟨e0, e1⟩ | ⟨g, cap, cur, rfl, _, hg, hcap1, hcap2, hcs, htake⟩
  · omega
  have hgl : g = W.heap.size := by
    rcases r5 with r5 | r5
    · simp [Value.ownBlock] at r5
    · exact Option.some.inj r5
  have hbl : Below W.heap.size W w' := ⟨r3.os, r3.tape, r3.output, r3.size, fun k hk => r3.block k hk (by simp [Value.ownBlock])⟩
  have hcur : cur = (news ++ cur.toList.drop (mm * size)).toArray := by
    apply Array.ext'
    rw [← htake]
    exact (List.take_append_drop _ _).symm
  rw [hcur] at hg
  refine eff_new hT hB (v := .slice (some ⟨g, 0, none⟩) mm cap) (g := g) (e := e) (s := .sl S.L.length mm cap) ?_ hgl hg hbl (Nat.lt_succ_self _) (by show Value.slice (some ⟨upd γ S.L.length g S.L.length, 0, none⟩) _ _ = _; rw [upd_eq]) q3 (hG cap (cur.toList.drop (mm * size)) ?_ hcap1 hcap2)
  · unfold execOp
    have ea : (S.act γ).eval a = .slice none 0 0 := opv_eval ha
    have eb : (S.act γ).eval b = .slice (some ad) mm c2 := (opv_eval hbx).trans hxe
    simp only [ho, resolve, invoke, builtin, Sem.run_bind, Sem.run_pure, Result.andThen_ok, List.map_toArray, List.map_cons, List.map_nil, ea, eb, r1]
  · rw [← hcs, ← Array.length_toList]
    have := congrArg (fun a => a.toList.length) hcur
    simpa using this.symm
end
end Go.Proofs.Ytbhakljebcmocaa.PBoundKeeps
end
section
namespace Go.Proofs.Ytbhakljebcmocaa.PBoundKeeps
open Go.RowKit Go.Proofs.YtbhakljebcmocaaW.PrintWords Go.Proofs.YtbhakljebcmocaaW.PrintLast Go.Proofs.YtbhakljebcmocaaW.PrintMore
set_option linter.unusedVariables false
set_option linter.unusedSimpArgs false
section
variable {P : Program} {Q : Exit → Act → World → Prop} {W0 : World} {F : Fr} {kn : List Nat} {R : List PRep} {S : St} {m : Md}
def fgtT (tv : Nat → Value) (keep : List Nat) : Nat → List SV → List SV
 | _, [] => []
 | i, s :: r => (match keep.elem i with | true => s | false => .v (tv i)) :: fgtT tv keep (i + 1) r
theorem fgtT_den (γ : Nat → Nat) (keep : List Nat) (T0 : List SV) : ∀ (i : Nat) (T : List SV), (∀ j s, T[j]? = some s → T0[i + j]? = some s) → (fgtT (fun k => (T0.getD k (.v undef)).den γ) keep i T).map (SV.den γ) = T.map (SV.den γ)
 | _, [], _ => rfl
 | i, s :: r, h => by
  show _ :: _ = _ :: _
  congr 1
  ·split
   ·rfl
   ·show (T0.getD i (.v undef)).den γ = s.den γ
    have := h 0 s rfl
    rw [Nat.add_zero] at this
    rw [List.getD_eq_getElem?_getD, this]
    rfl
  ·exact fgtT_den γ keep T0 (i + 1) r (fun j s hj => by have := h (j + 1) s hj; rwa [show i + (j + 1) = i + 1 + j by omega] at this)
theorem fgtT_ok {n : Nat} (tv : Nat → Value) (keep : List Nat) : ∀ (i : Nat) (T : List SV), (∀ s ∈ T, s.ok n) → ∀ s ∈ fgtT tv keep i T, s.ok n
 | _, [], _, s, hs => by cases hs
 | i, x :: r, h, s, hs => by
  rcases List.mem_cons.mp hs with rfl | hs
  ·split
   ·exact h x (List.mem_cons_self ..)
   ·trivial
  ·exact fgtT_ok tv keep (i + 1) r (fun s hs => h s (List.mem_cons_of_mem _ hs)) s hs
theorem rf_forget (keep : List Nat) (hG : ∀ tv : Nat → Value, Go P Q W0 F kn R ⟨S.L, fgtT tv keep 0 S.T⟩ m) : Go P Q W0 F kn R S m := by
 intro γ W hk hl hB hT hg
 have h := hG (fun k => (S.T.getD k (.v undef)).den γ) γ W hk hl hB (fgtT_ok _ _ 0 S.T hT) hg
 have e : (⟨S.L, fgtT (fun k => (S.T.getD k (.v undef)).den γ) keep 0 S.T⟩ : St).act γ = S.act γ := by
  unfold St.act
  congr 2
  exact fgtT_den γ keep S.T 0 S.T (fun j s hj => by rwa [Nat.zero_add])
 rw [e] at h
 exact h
def tvl (tv : Nat → Value) (n : Nat) (l : List (Nat × SV)) : List SV := (List.range n).map (fun i => match l.lookup i with | some s => s | none => .v (tv i))
def renS (f : List Nat) : SV → SV
 | .v x => .v x
 | .ad i o => .ad (f.getD i 0) o
 | .sl i n c => .sl (f.getD i 0) n c
theorem renS_den {γ : Nat → Nat} {f : List Nat} : ∀ s : SV, (renS f s).den γ = s.den (fun i => γ (f.getD i 0))
 | .v _ => rfl
 | .ad _ _ => rfl
 | .sl _ _ _ => rfl
def okb (n : Nat) : SV → Bool
 | .v _ => true
 | .ad i _ => i.blt n
 | .sl i _ _ => i.blt n
theorem okb_ok {n : Nat} : ∀ {s : SV}, okb n s = true → s.ok n
 | .v _, _ => trivial
 | .ad _ _, h => Nat.le_of_ble_eq_true h
 | .sl _ _ _, h => Nat.le_of_ble_eq_true h
theorem okb_all {n : Nat} {l : List SV} (h : l.all (okb n) = true) : ∀ s ∈ l, s.ok n := fun s hs => okb_ok (List.all_eq_true.mp h s hs)
theorem ok_v {n : Nat} (X : List Value) : ∀ s ∈ X.map SV.v, s.ok n := fun s hs => by obtain ⟨y, _, rfl⟩ := List.mem_map.mp hs; trivial
theorem ren_v {f : List Nat} (X : List Value) : (X.map SV.v).map (renS f) = X.map SV.v := by rw [List.map_map]; rfl
def RenB (f : List Nat) (n : Nat) (L : List (Option SB)) (i : Nat) : Option SB → Prop
 | none => True
 | some b => ∃ cs, getB L (f.getD i 0) = some ⟨b.w, b.t, cs⟩ ∧ b.cs.map (renS f) = cs ∧ ∀ s ∈ b.cs, s.ok n
def RenL (f : List Nat) (n : Nat) (L : List (Option SB)) : Nat → List (Option SB) → Prop
 | _, [] => True
 | i, x :: r => RenB f n L i x ∧ RenL f n L (i + 1) r
theorem RenL.get {f : List Nat} {n : Nat} {L : List (Option SB)} : ∀ {i : Nat} {L' : List (Option SB)}, RenL f n L i L' → ∀ (j : Nat) (b : SB), getB L' j = some b → RenB f n L (i + j) (some b)
 | _, [], _, j, b, hj => by unfold getB at hj; simp at hj
 | i, x :: r, h, 0, b, hj => by
  have : x = some b := hj
  subst this
  exact h.1
 | i, x :: r, h, j + 1, b, hj => by
  have := h.2.get j b hj
  rwa [show i + 1 + j = i + (j + 1) by omega] at this
def injb : List Nat → Bool
 | [] => true
 | x :: r => !r.elem x && injb r
theorem injb_ne : ∀ {l : List Nat}, injb l = true → ∀ i j, i < j → j < l.length → l.getD i 0 ≠ l.getD j 0
 | [], _, i, j, _, hj => by simp at hj
 | x :: r, h, 0, j + 1, _, hj => by
  unfold injb at h
  rw [Bool.and_eq_true] at h
  intro e
  have hj' : j < r.length := by simpa using hj
  have e' : x = r.getD j 0 := e
  have : r.elem x = true := by rw [e', List.getD_eq_getElem?_getD, List.getElem?_eq_getElem hj']; exact List.elem_iff.mpr (List.getElem_mem hj')
  rw [this] at h
  cases h.1
 | x :: r, h, i + 1, j + 1, hij, hj => by
  unfold injb at h
  rw [Bool.and_eq_true] at h
  exact injb_ne h.2 i j (by omega) (by simpa using hj)
theorem rf_ren (f : List Nat) (S' : St) (hm : plainM m = true) (hkn : kn = []) (hf : injb f = true) (hn : S'.L.length = f.length) (hT : S'.T.map (renS f) = S.T) (hTo : S'.T.all (okb f.length) = true) (hL : RenL f f.length S.L 0 S'.L) (hG : Go P Q W0 F kn R S' m) : Go P Q W0 F kn R S m := by
 intro γ W hk hl hB hT0 hg
 subst hkn
 have hget : ∀ (j : Nat) (b : SB), getB S'.L j = some b → RenB f f.length S.L j (some b) := fun j b hj => by
  have := hL.get j b hj
  rwa [Nat.zero_add] at this
 have emap : ∀ l : List SV, (l.map (renS f)).map (SV.den γ) = l.map (SV.den (fun i => γ (f.getD i 0))) := fun l => by
  rw [List.map_map]
  exact List.map_congr_left (fun s _ => renS_den s)
 have hB' : Bq W0 F (fun i => γ (f.getD i 0)) S'.L R W := by
  refine ⟨hB.hb, fun i b hi => ?_, fun i j a b hij hi hj hw => ?_, fun i b hi s hs => ?_, hB.rep, fun r hr i b hi hw => ?_, hB.fr⟩
  ·obtain ⟨cs, h1, h2, h3⟩ := hget i b hi
   have := hB.at_ _ _ h1
   rw [← emap, h2]
   exact this
  ·obtain ⟨cs, h1, h2, h3⟩ := hget i a hi
   obtain ⟨cs', h1', h2', h3'⟩ := hget j b hj
   have hjl := getB_lt hj
   rw [hn] at hjl
   have hne := injb_ne hf i j hij hjl
   rcases Nat.lt_or_gt_of_ne hne with h | h
   ·exact hB.nd _ _ _ _ h h1 h1' hw
   ·exact fun e => hB.nd _ _ _ _ h h1' h1 (by rw [Bool.or_comm]; exact hw) e.symm
  ·obtain ⟨cs, h1, h2, h3⟩ := hget i b hi
   rw [hn]
   exact h3 s hs
  ·obtain ⟨cs, h1, h2, h3⟩ := hget i b hi
   exact hB.sep r hr _ _ h1 hw
 have := hG (fun i => γ (f.getD i 0)) W (fun i g hi => by cases hi) (Nat.zero_le _) hB' (by rw [← hn] at hTo; exact okb_all hTo) (by cases m <;> first | trivial | cases hm)
 have e : S'.act (fun i => γ (f.getD i 0)) = S.act γ := by
  unfold St.act
  rw [← hT, emap]
 rw [e] at this
 cases m with
 | ks _ => exact this
 | pl _ _ _ => exact this
 | dr _ _ _ _ _ _ => cases hm
 | sel _ _ _ _ _ _ _ => cases hm
end
end Go.Proofs.Ytbhakljebcmocaa.PBoundKeeps
end
section
namespace Go.Proofs.Ytbhakljebcmocaa.PBoundKeeps
open Go.RowKit Go.Proofs.YtbhakljebcmocaaW.PrintWords Go.Proofs.YtbhakljebcmocaaW.PrintLast Go.Proofs.YtbhakljebcmocaaW.PrintMore
set_option linter.unusedVariables false
set_option linter.unusedSimpArgs false
def tE : TE where
 sz := [(3, false, 1), (4, false, 1), (23, true, 5), (25, false, 1), (29, false, 1), (31, true, 2), (32, false, 1), (33, false, 1), (35, true, 10), (37, true, 17), (38, false, 1), (39, false, 1), (41, true, 20), (46, false, 1), (48, true, 4), (50, false, 1), (52, true, 4), (54, true, 13), (58, false, 1), (70, true, 10), (72, true, 17), (74, true, 16), (76, true, 15), (78, true, 55), (80, true, 59), (82, true, 124), (83, false, 1), (85, true, 14), (87, true, 143)]
 fo := [(23, [(0, 1), (1, 1), (2, 1), (3, 1), (4, 1)]), (31, [(0, 1), (1, 1)]), (35, [(0, 5), (5, 1), (6, 1), (7, 1), (8, 1), (9, 1)]), (37, [(0, 5), (5, 2), (7, 10)]), (41, [(0, 17), (17, 1), (18, 1), (19, 1)]), (48, [(0, 1), (1, 1), (2, 1), (3, 1)]), (52, [(0, 1), (1, 1), (2, 1), (3, 1)]), (54, [(0, 1), (1, 1), (2, 1), (3, 1), (4, 1), (5, 4), (9, 4)]), (70, [(0, 1), (1, 1), (2, 1), (3, 1), (4, 1), (5, 1), (6, 1), (7, 1), (8, 1), (9, 1)]), (72, [(0, 1), (1, 1), (2, 1), (3, 1), (4, 1), (5, 10), (15, 1), (16, 1)]), (74, [(0, 1), (1, 1), (2, 1), (3, 1), (4, 10), (14, 1), (15, 1)]), (76, [(0, 1), (1, 1), (2, 1), (3, 10), (13, 1), (14, 1)]), (78, [(0, 1), (1, 1), (2, 17), (19, 16), (35, 15), (50, 1), (51, 4)]), (80, [(0, 1), (1, 1), (2, 1), (3, 55), (58, 1)]), (82, [(0, 1), (1, 1), (2, 1), (3, 1), (4, 1), (5, 59), (64, 55), (119, 1), (120, 4)]), (85, [(0, 4), (4, 1), (5, 1), (6, 1), (7, 1), (8, 1), (9, 1), (10, 4)]), (87, [(0, 1), (1, 1), (2, 1), (3, 1), (4, 124), (128, 14), (142, 1)]), (120, [(0, 1), (1, 4)]), (125, [(0, 1), (1, 1)]), (129, [(0, 1), (1, 1)])]
 zc := [(3, [.int .i64 0]), (31, [.slice none 0 0, .int .i64 0]), (35, [.int .i64 0, .int .i64 0, .int .i64 0, .int .i64 0, .int .i64 0, .slice none 0 0, .slice none 0 0, .slice none 0 0, .slice none 0 0, .slice none 0 0]), (37, [.int .i64 0, .int .i64 0, .int .i64 0, .int .i64 0, .int .i64 0, .slice none 0 0, .int .i64 0, .int .i64 0, .int .i64 0, .int .i64 0, .int .i64 0, .int .i64 0, .slice none 0 0, .slice none 0 0, .slice none 0 0, .slice none 0 0, .slice none 0 0]), (41, [.int .i64 0, .int .i64 0, .int .i64 0, .int .i64 0, .int .i64 0, .slice none 0 0, .int .i64 0, .int .i64 0, .int .i64 0, .int .i64 0, .int .i64 0, .int .i64 0, .slice none 0 0, .slice none 0 0, .slice none 0 0, .slice none 0 0, .slice none 0 0, .slice none 0 0, .slice none 0 0, .int .i64 0]), (46, [.int .u64 0]), (48, [.int .i64 0, .int .u64 0, .int .u64 0, .int .i64 0]), (50, [.slice none 0 0]), (54, [.int .i64 0, .int .i64 0, .int .i64 0, .int .i64 0, .int .i64 0, .int .i64 0, .int .u64 0, .int .u64 0, .int .i64 0, .int .i64 0, .bool false, .int .u64 0, .slice none 0 0]), (58, [.slice none 0 0]), (70, [.int .u64 0, .int .i64 0, .int .i64 0, .int .i64 0, .int .i64 0, .int .u64 0, .int .i64 0, .int .i64 0, .bool false, .bool false]), (72, [.int .i64 0, .int .i64 0, .int .i64 0, .int .i64 0, .bool false, .int .u64 0, .int .i64 0, .int .i64 0, .int .i64 0, .int .i64 0, .int .u64 0, .int .i64 0, .int .i64 0, .bool false, .bool false, .bool false, .bool false]), (74, [.int .i64 0, .bool false, .int .i64 0, .int .u64 0, .int .u64 0, .int .i64 0, .int .i64 0, .int .i64 0, .int .i64 0, .int .u64 0, .int .i64 0, .int .i64 0, .bool false, .bool false, .bool false, .bool false]), (76, [.int .i64 0, .int .i64 0, .int .u64 0, .int .u64 0, .int .i64 0, .int .i64 0, .int .i64 0, .int .i64 0, .int .u64 0, .int .i64 0, .int .i64 0, .bool false, .bool false, .bool false, .int .i64 0]), (78, [.int .i64 0, .int .i64 0, .int .i64 0, .int .i64 0, .int .i64 0, .int .i64 0, .bool false, .int .u64 0, .int .i64 0, .int .i64 0, .int .i64 0, .int .i64 0, .int .u64 0, .int .i64 0, .int .i64 0, .bool false, .bool false, .bool false, .bool false, .int .i64 0, .bool false, .int .i64 0, .int .u64 0, .int .u64 0, .int .i64 0, .int .i64 0, .int .i64 0, .int .i64 0, .int .u64 0, .int .i64 0, .int .i64 0, .bool false, .bool false, .bool false, .bool false, .int .i64 0, .int .i64 0, .int .u64 0, .int .u64 0, .int .i64 0, .int .i64 0, .int .i64 0, .int .i64 0, .int .u64 0, .int .i64 0, .int .i64 0, .bool false, .bool false, .bool false, .int .i64 0, .bool false, .int .i64 0, .bool false, .int .u64 0, .slice none 0 0]), (80, [.int .i64 0, .int .i64 0, .int .i64 0, .int .i64 0, .int .i64 0, .int .i64 0, .int .i64 0, .int .i64 0, .int .i64 0, .bool false, .int .u64 0, .int .i64 0, .int .i64 0, .int .i64 0, .int .i64 0, .int .u64 0, .int .i64 0, .int .i64 0, .bool false, .bool false, .bool false, .bool false, .int .i64 0, .bool false, .int .i64 0, .int .u64 0, .int .u64 0, .int .i64 0, .int .i64 0, .int .i64 0, .int .i64 0, .int .u64 0, .int .i64 0, .int .i64 0, .bool false, .bool false, .bool false, .bool false, .int .i64 0, .int .i64 0, .int .u64 0, .int .u64 0, .int .i64 0, .int .i64 0, .int .i64 0, .int .i64 0, .int .u64 0, .int .i64 0, .int .i64 0, .bool false, .bool false, .bool false, .int .i64 0, .bool false, .int .i64 0, .bool false, .int .u64 0, .slice none 0 0, .bool false]), (82, [.int .i64 0, .int .i64 0, .int .i64 0, .int .i64 0, .bool false, .int .i64 0, .int .i64 0, .int .i64 0, .int .i64 0, .int .i64 0, .int .i64 0, .int .i64 0, .int .i64 0, .int .i64 0, .bool false, .int .u64 0, .int .i64 0, .int .i64 0, .int .i64 0, .int .i64 0, .int .u64 0, .int .i64 0, .int .i64 0, .bool false, .bool false, .bool false, .bool false, .int .i64 0, .bool false, .int .i64 0, .int .u64 0, .int .u64 0, .int .i64 0, .int .i64 0, .int .i64 0, .int .i64 0, .int .u64 0, .int .i64 0, .int .i64 0, .bool false, .bool false, .bool false, .bool false, .int .i64 0, .int .i64 0, .int .u64 0, .int .u64 0, .int .i64 0, .int .i64 0, .int .i64 0, .int .i64 0, .int .u64 0, .int .i64 0, .int .i64 0, .bool false, .bool false, .bool false, .int .i64 0, .bool false, .int .i64 0, .bool false, .int .u64 0, .slice none 0 0, .bool false, .int .i64 0, .int .i64 0, .int .i64 0, .int .i64 0, .int .i64 0, .int .i64 0, .bool false, .int .u64 0, .int .i64 0, .int .i64 0, .int .i64 0, .int .i64 0, .int .u64 0, .int .i64 0, .int .i64 0, .bool false, .bool false, .bool false, .bool false, .int .i64 0, .bool false, .int .i64 0, .int .u64 0, .int .u64 0, .int .i64 0, .int .i64 0, .int .i64 0, .int .i64 0, .int .u64 0, .int .i64 0, .int .i64 0, .bool false, .bool false, .bool false, .bool false, .int .i64 0, .int .i64 0, .int .u64 0, .int .u64 0, .int .i64 0, .int .i64 0, .int .i64 0, .int .i64 0, .int .u64 0, .int .i64 0, .int .i64 0, .bool false, .bool false, .bool false, .int .i64 0, .bool false, .int .i64 0, .bool false, .int .u64 0, .slice none 0 0, .bool false, .int .i64 0, .bool false, .int .u64 0, .slice none 0 0]), (85, [.int .i64 0, .int .u64 0, .int .u64 0, .int .i64 0, .int .i64 0, .int .i64 0, .int .i64 0, .int .u64 0, .slice none 0 0, .bool false, .int .i64 0, .bool false, .int .u64 0, .slice none 0 0]), (87, [.slice none 0 0, .int .i64 0, .int .i64 0, .int .i64 0, .int .i64 0, .int .i64 0, .int .i64 0, .int .i64 0, .bool false, .int .i64 0, .int .i64 0, .int .i64 0, .int .i64 0, .int .i64 0, .int .i64 0, .int .i64 0, .int .i64 0, .int .i64 0, .bool false, .int .u64 0, .int .i64 0, .int .i64 0, .int .i64 0, .int .i64 0, .int .u64 0, .int .i64 0, .int .i64 0, .bool false, .bool false, .bool false, .bool false, .int .i64 0, .bool false, .int .i64 0, .int .u64 0, .int .u64 0, .int .i64 0, .int .i64 0, .int .i64 0, .int .i64 0, .int .u64 0, .int .i64 0, .int .i64 0, .bool false, .bool false, .bool false, .bool false, .int .i64 0, .int .i64 0, .int .u64 0, .int .u64 0, .int .i64 0, .int .i64 0, .int .i64 0, .int .i64 0, .int .u64 0, .int .i64 0, .int .i64 0, .bool false, .bool false, .bool false, .int .i64 0, .bool false, .int .i64 0, .bool false, .int .u64 0, .slice none 0 0, .bool false, .int .i64 0, .int .i64 0, .int .i64 0, .int .i64 0, .int .i64 0, .int .i64 0, .bool false, .int .u64 0, .int .i64 0, .int .i64 0, .int .i64 0, .int .i64 0, .int .u64 0, .int .i64 0, .int .i64 0, .bool false, .bool false, .bool false, .bool false, .int .i64 0, .bool false, .int .i64 0, .int .u64 0, .int .u64 0, .int .i64 0, .int .i64 0, .int .i64 0, .int .i64 0, .int .u64 0, .int .i64 0, .int .i64 0, .bool false, .bool false, .bool false, .bool false, .int .i64 0, .int .i64 0, .int .u64 0, .int .u64 0, .int .i64 0, .int .i64 0, .int .i64 0, .int .i64 0, .int .u64 0, .int .i64 0, .int .i64 0, .bool false, .bool false, .bool false, .int .i64 0, .bool false, .int .i64 0, .bool false, .int .u64 0, .slice none 0 0, .bool false, .int .i64 0, .bool false, .int .u64 0, .slice none 0 0, .int .i64 0, .int .u64 0, .int .u64 0, .int .i64 0, .int .i64 0, .int .i64 0, .int .i64 0, .int .u64 0, .slice none 0 0, .bool false, .int .i64 0, .bool false, .int .u64 0, .slice none 0 0, .int .i64 0]), (120, [.int .i64 0, .int .i64 0, .int .u64 0, .int .u64 0, .int .i64 0]), (125, [.int .i64 0, .int .i64 0]), (129, [.int .u64 0, .int .u64 0])]
 ik := [(3, .i64), (46, .u64)]
 el := [(24, 58, 1, 24), (25, 3, 1, 8), (29, 46, 1, 8), (32, 120, 5, 40), (33, 125, 2, 16), (38, 87, 143, 1160), (39, 54, 13, 120), (50, 129, 2, 16), (58, 48, 4, 32), (83, 50, 1, 24)]
theorem te_ok : tE.ok Try.prog := TE.ok_of (by kernel_rfl)
end Go.Proofs.Ytbhakljebcmocaa.PBoundKeeps
end
section
namespace Go.Proofs.Ytbhakljebcmocaa.PBoundKeeps
open Go.RowKit Go.Proofs.YtbhakljebcmocaaW.PrintWords Go.Proofs.YtbhakljebcmocaaW.PrintLast Go.Proofs.YtbhakljebcmocaaW.PrintMore
set_option linter.unusedVariables false
set_option linter.unusedSimpArgs false
structure WalkR where
 key : Int
 mode : Int
 phase : Int
 pred : Int
 curr : Int
 next : Int
 seen : Int
 found : Int
 stop : Bool
 done : Bool
def encWalk (x : WalkR) : List Value := [.int .u64 x.key, .int .i64 x.mode, .int .i64 x.phase, .int .i64 x.pred, .int .i64 x.curr, .int .u64 x.next, .int .i64 x.seen, .int .i64 x.found, .bool x.stop, .bool x.done]
def zWalkR : WalkR := ⟨0, 0, 0, 0, 0, 0, 0, 0, false, false⟩
structure ResR where
 err : Int
 done : Bool
 val : Int
def encRes (x : ResR) : List Value := [.int .i64 x.err, .bool x.done, .int .u64 x.val, .slice none 0 0]
def zResR : ResR := ⟨0, false, 0⟩
structure PutR where
 op : Int
 thread : Int
 phase : Int
 node : Int
 linked : Bool
 walk : WalkR
 done : Bool
 won : Bool
def encPut (x : PutR) : List Value := [.int .i64 x.op, .int .i64 x.thread, .int .i64 x.phase, .int .i64 x.node, .bool x.linked] ++ encWalk x.walk ++ [.bool x.done, .bool x.won]
def zPutR : PutR := ⟨0, 0, 0, 0, false, zWalkR, false, false⟩
structure TakeR where
 op : Int
 own : Bool
 phase : Int
 want : Int
 walk : WalkR
 done : Bool
 won : Bool
def encTake (x : TakeR) : List Value := [.int .i64 x.op, .bool x.own, .int .i64 x.phase, .int .u64 x.want] ++ encWalk x.walk ++ [.bool x.done, .bool x.won]
def zTakeR : TakeR := ⟨0, false, 0, 0, zWalkR, false, false⟩
structure GetR where
 op : Int
 phase : Int
 want : Int
 walk : WalkR
 done : Bool
 found : Int
def encGet (x : GetR) : List Value := [.int .i64 x.op, .int .i64 x.phase, .int .u64 x.want] ++ encWalk x.walk ++ [.bool x.done, .int .i64 x.found]
def zGetR : GetR := ⟨0, 0, 0, zWalkR, false, 0⟩
structure ActR where
 op : Int
 kind : Int
 place : PutR
 take : TakeR
 get : GetR
 done : Bool
 result : ResR
def encAct (x : ActR) : List Value := [.int .i64 x.op, .int .i64 x.kind] ++ encPut x.place ++ encTake x.take ++ encGet x.get ++ [.bool x.done] ++ encRes x.result
def zActR : ActR := ⟨0, 0, zPutR, zTakeR, zGetR, false, zResR⟩
structure HelpR where
 thread : Int
 whom : Int
 phase : Int
 act : ActR
 done : Bool
def encHelp (x : HelpR) : List Value := [.int .i64 x.thread, .int .i64 x.whom, .int .i64 x.phase] ++ encAct x.act ++ [.bool x.done]
def zHelpR : HelpR := ⟨0, 0, 0, zActR, false⟩
structure CallR where
 thread : Int
 op : Int
 phase : Int
 fuel : Int
 said : Bool
 help : HelpR
 act : ActR
 done : Bool
 result : ResR
def encCallR (x : CallR) : List Value := [.int .i64 x.thread, .int .i64 x.op, .int .i64 x.phase, .int .i64 x.fuel, .bool x.said] ++ encHelp x.help ++ encAct x.act ++ [.bool x.done] ++ encRes x.result
def zCallR : CallR := ⟨0, 0, 0, 0, false, zHelpR, zActR, false, zResR⟩
end Go.Proofs.Ytbhakljebcmocaa.PBoundKeeps
end
section
namespace Go.Proofs.Ytbhakljebcmocaa.PBoundKeeps
open Go.RowKit Go.Proofs.YtbhakljebcmocaaW.PrintWords Go.Proofs.YtbhakljebcmocaaW.PrintLast Go.Proofs.YtbhakljebcmocaaW.PrintMore
set_option linter.unusedVariables false
set_option linter.unusedSimpArgs false
def bound_sum.l0 : Nat → Int → List Int → Int → Int → Option (Int)
 | 0, _, _, _, _ => none
 | k + 1, x3, x6, x7, x8 => if x8 < x7 then (if 0 ≤ x8 then (if x8 < (x6.length : Int) then (bound_sum.l0 k (wrap64 (x3 + (rd x6 x8))) x6 x7 (wrap64 (x8 + 1))) else (none)) else (none)) else (some x3)
def bound_sum.f (k : Nat) (l0 : List Int) : Option (Int) := bound_sum.l0 k 0 l0 (l0.length : Int) 0
set_option maxHeartbeats 8000000 in
set_option maxRecDepth 100000 in
theorem bound_sum.calls (k : Nat) (A0 : Option Addr) (c0 : Nat) (l0 : List Int) (r : Int) (w : World) (hr0 : Kd.C (Kd.int .i64) w A0 l0.length l0) (hc0 : l0.length ≤ c0) (h : bound_sum.f k l0 = some r) :
    Calls Try.prog 15 #[.slice A0 l0.length c0] w fun e w' => e = .returned (.int .i64 r) ∧ Drawn0 w w' := by
  have HR0 := Aside0.mk hr0
  have HC0 := Aside0.mk hc0
  clear hr0 hc0
  have H : (bound_sum.l0 k 0 l0 (l0.length : Int) 0) = some r := h
  clear h
  have H' := Aside0.mk H
  clear H
  go_enter Try.func15, Try.ntmps15
  go_wp2
  go_loopg [3, 8] k (fun kq v3 v8 w' => ∃ (x3_1 : Int) (x8_1 : Int), v3 = .int .i64 x3_1 ∧ v8 = .int .i64 x8_1 ∧ Aside0 (bound_sum.l0 kq x3_1 l0 (l0.length : Int) x8_1 = some r) ∧ Aside0 (kq ≤ k) ∧ Drawn0 w w')
  case atStart => exact ⟨(0), (0), (by first | rfl | (simp; done) | (simp [*]; done)), (by first | rfl | (simp; done) | (simp [*]; done)), H', ⟨Nat.le_refl _⟩, by repeat (first | exact Drawn0.refl _ | apply Drawn0.step)⟩
  case round =>
    clear H'
    try clear c1
    obtain ⟨x3_1, x8_1, rfl, rfl, HA, HK1, ⟨m1, rfl⟩⟩ := hrel
    cases gk with
    | zero => exact absurd HA.out (by simp [bound_sum.l0])
    | succ k1 =>
      have H := HA.out
      clear HA
      simp only [bound_sum.l0] at H
      by_cases c2 : x8_1 < (l0.length : Int)
      · rw [if_pos c2] at H
        have c2b0 : decide (x8_1 < (l0.length : Int)) = true := decide_eq_true c2
        clear c2
        by_cases c3 : 0 ≤ x8_1
        · rw [if_pos c3] at H
          have c3b0 : decide (0 ≤ x8_1) = true := decide_eq_true c3
          clear c3
          by_cases c4 : x8_1 < (l0.length : Int)
          · rw [if_pos c4] at H
            have c4b0 : decide (x8_1 < (l0.length : Int)) = true := decide_eq_true c4
            clear c4
            have H' := Aside0.mk H
            clear H
            have p101 : 0 ≤ (x8_1 : Int) := of_decide_eq_true (by first | (with_reducible assumption) | assumption)
            have q101 : x8_1 < (l0.length : Int) := of_decide_eq_true (by first | (with_reducible assumption) | assumption)
            obtain ⟨ad101, e101, hx101_0⟩ := Kd.at_int HR0.out x8_1 p101 q101
            cases e101
            replace p101 := eq_true p101
            replace q101 := eq_true q101
            go_wp2
            go_roundg k1
            case measure => have := HK1.out; omega
            case rel => exact ⟨(wrap64 (x3_1 + (rd l0 x8_1))), (wrap64 (x8_1 + 1)), (by first | rfl | (simp; done) | (simp [*]; done)), (by first | rfl | (simp; done) | (simp [*]; done)), H', ⟨by have := HK1.out; omega⟩, by repeat (first | exact Drawn0.refl _ | apply Drawn0.step)⟩
          · rw [if_neg c4] at H
            exact absurd H (by simp)
        · rw [if_neg c3] at H
          exact absurd H (by simp)
      · rw [if_neg c2] at H
        have c2b0 : decide (x8_1 < (l0.length : Int)) = false := decide_eq_false c2
        clear c2
        obtain rfl := Option.some.inj H
        go_wp2
        go_ret
        exact ⟨by first | rfl | (simp; done) | (simp [*]; done), by repeat (first | exact Drawn0.refl _ | apply Drawn0.step)⟩
def bound_Point.l0 : Nat → Int → Int → Int → Int → Int → Int → Int → Int → Int → Int → Option (Int)
 | 0, _, _, _, _, _, _, _, _, _, _ => none
 | k + 1, x1, x2, x7, x8, x12, x103000, x103001, x103002, x103003, x103004 => if x12 < 4 then (bound_Point.l0 k x1 x2 x7 (wrap64 (x8 * x7)) (wrap64 (x12 + 1)) x103000 x103001 x103002 x103003 x103004) else ((bound_sum.f k (([x1, x2, wrap64 (x7 * x7)] : List Int))).bind fun t106 => ((bound_sum.f k (([x103003, wrap64 (x8 * t106)] : List Int))).bind fun t110 => (some t110)))
def bound_Point.f (k : Nat) (a0_0 : Int) (a0_1 : Int) (a0_2 : Int) (a0_3 : Int) (a0_4 : Int) (a1 : Int) (a2 : Int) : Option (Int) := bound_Point.l0 k a1 a2 (wrap64 (a0_0 + 1)) 1024 0 a0_0 a0_1 a0_2 a0_3 a0_4
def bound_Point.T7 : Bool × List (List Nat × List Nat) := (true, [([], []), ([0], [0]), ([], []), ([], []), ([], []), ([], []), ([], []), ([5, 6], [5, 6]), ([3, 4, 7], [3, 4, 7]), ([8], [8]), ([2, 9], [2, 9]), ([1, 10], [1, 10]), ([11, 9], [11]), ([12, 12, 0, 1, 2, 3, 4, 5, 6, 7, 8, 9, 10, 11, 12], [12])])
def bound_Point.B7 : List Nat := [0, 1, 0, 0, 0, 0, 0, 96, 248, 504, 1020, 2047, 4095, 8191]
theorem bound_Point.tab7 : rtab .any (opsOf Try.f9 7) = bound_Point.T7 := by kernel_rfl
theorem bound_Point.bits7 : waitsOk bound_Point.T7.2 bound_Point.B7 = true := by kernel_rfl
set_option maxHeartbeats 8000000 in
set_option maxRecDepth 100000 in
theorem bound_Point.calls (k : Nat) (a0_0 : Int) (a0_1 : Int) (a0_2 : Int) (a0_3 : Int) (a0_4 : Int) (a1 : Int) (a2 : Int) (r : Int) (w : World) (h : bound_Point.f k a0_0 a0_1 a0_2 a0_3 a0_4 a1 a2 = some r) :
    Calls Try.prog 9 #[.agg #[.int .i64 a0_0, .int .i64 a0_1, .int .i64 a0_2, .int .i64 a0_3, .int .i64 a0_4], .int .i64 a1, .int .i64 a2] w fun e w' => e = .returned (.int .i64 r) ∧ Below w.heap.size w w' := by
  have hu23 := Try.underlying23
  have HB := Aside0.mk (Below.refl w.heap.size w)
  have H : (bound_Point.l0 k a1 a2 (wrap64 (a0_0 + 1)) 1024 0 a0_0 a0_1 a0_2 a0_3 a0_4) = some r := h
  clear h
  have H' := Aside0.mk H
  clear H
  go_enter Try.func9, Try.ntmps9
  go_wp2_with (first | ((with_reducible refine gate_dst (N := 3) rfl ?_); refine box_event ?hg (N := 3) ?hd (cs := #[.int .i64 a0_0, .int .i64 a0_1, .int .i64 a0_2, .int .i64 a0_3, .int .i64 a0_4]) (t := 23) ?hr ?_; (case hd => rfl); (case hg => rfl); (case hr => first | (go_simp; done) | (go_simp; rfl)); intro gb102 hg w4 hbox hb; have n0_ := Aside0.mk (below_step (by repeat (first | (with_reducible first | exact HB.out | apply below_alloc | apply pw_below_drewN | apply below_drew1) | exact HB.out)) hb); have n1_ := Aside0.mk (hbox); have n2_ := Aside0.mk ((by rw [hg]; exact (below_size (by repeat (first | (with_reducible first | exact HB.out | apply below_alloc | apply pw_below_drewN | apply below_drew1) | exact HB.out))) : w.heap.size ≤ gb102)); have n3_ := Aside0.mk ((by rw [hg]; exact (below_size (by repeat (first | (with_reducible first | exact HB.out | apply below_alloc | apply pw_below_drewN | apply below_drew1) | exact HB.out))) : w.heap.size ≤ gb102)); clear HB; have HB := n0_; have BK102 := n1_; have GW102 := n2_; have GE102 := n3_; clear n0_ n1_ n2_ n3_; clear hb hbox hg; have hcz5_0 : w4.cell? ⟨gb102, 0, none⟩ = some (.int .i64 a0_0) := (blk_cell BK102.out 0).trans rfl; have hcz5_1 : w4.cell? ⟨gb102, 1, none⟩ = some (.int .i64 a0_1) := (blk_cell BK102.out 1).trans rfl; have hcz5_2 : w4.cell? ⟨gb102, 2, none⟩ = some (.int .i64 a0_2) := (blk_cell BK102.out 2).trans rfl; have hcz5_3 : w4.cell? ⟨gb102, 3, none⟩ = some (.int .i64 a0_3) := (blk_cell BK102.out 3).trans rfl; have hcz5_4 : w4.cell? ⟨gb102, 4, none⟩ = some (.int .i64 a0_4) := (blk_cell BK102.out 4).trans rfl; have hfz5_0 := blk_frozen BK102.out 0; have hfz5_1 := blk_frozen BK102.out 1; have hfz5_2 := blk_frozen BK102.out 2; have hfz5_3 := blk_frozen BK102.out 3; have hfz5_4 := blk_frozen BK102.out 4))
  go_loopg [8, 12] k (fun kq v8 v12 w' => ∃ (x8_1 : Int) (x12_1 : Int), v8 = .int .i64 x8_1 ∧ v12 = .int .i64 x12_1 ∧ Aside0 (bound_Point.l0 kq a1 a2 (wrap64 (a0_0 + 1)) x8_1 x12_1 a0_0 a0_1 a0_2 a0_3 a0_4 = some r) ∧ Aside0 (kq ≤ k) ∧ Aside0 (w'.heap[gb102]? = some (.cells #[.int .i64 a0_0, .int .i64 a0_1, .int .i64 a0_2, .int .i64 a0_3, .int .i64 a0_4] 23 (0, 0))) ∧ Aside0 (Below w.heap.size w w'))
  case atStart => exact ⟨(1024), (0), (by first | rfl | (simp; done) | (simp [*]; done)), (by first | rfl | (simp; done) | (simp [*]; done)), H', ⟨Nat.le_refl _⟩, ⟨by (with_reducible repeat (first | refine blk_drewN ?_ _ | refine blk_drew ?_ | refine blk_alloc ?_ _)); exact BK102.out⟩, ⟨by repeat (first | (with_reducible first | exact HB.out | apply below_alloc | apply pw_below_drewN | apply below_drew1 | refine below_set ?_ GE102.out) | exact HB.out)⟩⟩
  case round =>
    clear H'
    try clear p2
    try clear hcz5_0
    try clear hcz5_1
    try clear hcz5_2
    try clear hcz5_3
    try clear hcz5_4
    try clear hfz5_0
    try clear hfz5_1
    try clear hfz5_2
    try clear hfz5_3
    try clear hfz5_4
    obtain ⟨x8_1, x12_1, rfl, rfl, HA, HK1, BK102, HB⟩ := hrel
    cases gk with
    | zero => exact absurd HA.out (by simp [bound_Point.l0])
    | succ k1 =>
      have H := HA.out
      clear HA
      simp only [bound_Point.l0] at H
      by_cases c6 : x12_1 < 4
      · rw [if_pos c6] at H
        have c6b0 : decide (x12_1 < 4) = true := decide_eq_true c6
        clear c6
        have H' := Aside0.mk H
        clear H
        go_wp2
        go_roundg k1
        case measure => have := HK1.out; omega
        case rel => exact ⟨(wrap64 (x8_1 * (wrap64 (a0_0 + 1)))), (wrap64 (x12_1 + 1)), (by first | rfl | (simp; done) | (simp [*]; done)), (by first | rfl | (simp; done) | (simp [*]; done)), H', ⟨by have := HK1.out; omega⟩, ⟨by (with_reducible repeat (first | refine blk_drewN ?_ _ | refine blk_drew ?_ | refine blk_alloc ?_ _)); exact BK102.out⟩, ⟨by repeat (first | (with_reducible first | exact HB.out | apply below_alloc | apply pw_below_drewN | apply below_drew1 | refine below_set ?_ GE102.out) | exact HB.out)⟩⟩
      · rw [if_neg c6] at H
        have c6b0 : decide (x12_1 < 4) = false := decide_eq_false c6
        clear c6
        obtain ⟨y103, hy103⟩ : ∃ y_ : List Int, y_ = (([a1, a2, wrap64 ((wrap64 (a0_0 + 1)) * (wrap64 (a0_0 + 1)))] : List Int)) := ⟨_, rfl⟩
        replace H : ((bound_sum.f k1 y103).bind fun t106 => ((bound_sum.f k1 (([a0_3, wrap64 (x8_1 * t106)] : List Int))).bind fun t110 => (some t110))) = some r := by first | (rw [hy103]; with_reducible exact H) | (have H2_ := (Option.bind_some _ _).symm.trans H; rw [hy103]; with_reducible exact H2_) | (have H2_ := (Option.bind_some _ _).symm.trans H; with_reducible exact H2_) | with_reducible exact H | (rw [hy103]; exact H) | exact H
        have Ny103 := Aside0.mk hy103
        clear hy103
        replace H := Option.bind_eq_some_iff.mp H
        obtain ⟨t106, A70, H⟩ := H
        replace H : ((bound_sum.f k1 (([a0_3, wrap64 (x8_1 * t106)] : List Int))).bind fun t110 => (some t110)) = some r := H
        have A7 := Aside0.mk A70
        clear A70
        obtain ⟨y107, hy107⟩ : ∃ y_ : List Int, y_ = (([a0_3, wrap64 (x8_1 * t106)] : List Int)) := ⟨_, rfl⟩
        replace H : ((bound_sum.f k1 y107).bind fun t110 => (some t110)) = some r := by first | (rw [hy107]; with_reducible exact H) | (have H2_ := (Option.bind_some _ _).symm.trans H; rw [hy107]; with_reducible exact H2_) | (have H2_ := (Option.bind_some _ _).symm.trans H; with_reducible exact H2_) | with_reducible exact H | (rw [hy107]; exact H) | exact H
        have Ny107 := Aside0.mk hy107
        clear hy107
        replace H := Option.bind_eq_some_iff.mp H
        obtain ⟨t110, A80, H⟩ := H
        replace H : (some t110) = some r := H
        have A8 := Aside0.mk A80
        clear A80
        obtain rfl := Option.some.inj H
        try go_wp2
        have n0_ := Aside0.mk (blk_drew BK102.out)
        have n1_ := Aside0.mk (below_drew1 HB.out)
        clear BK102
        clear HB
        have BK102 := n0_
        have HB := n1_
        clear n0_ n1_
        refine start_ (n := 14) (S := fun w' => w'.cell? ⟨gb102, 0, none⟩ = some (.int .i64 a0_0) ∧ w'.cell? ⟨gb102, 1, none⟩ = some (.int .i64 a0_1) ∧ w'.cell? ⟨gb102, 2, none⟩ = some (.int .i64 a0_2) ∧ w'.cell? ⟨gb102, 3, none⟩ = some (.int .i64 a0_3) ∧ w'.cell? ⟨gb102, 4, none⟩ = some (.int .i64 a0_4)) (ds := []) #[false, false, false, false, false, false, false, false, false, false, false, false, false, false] (by kernel_rfl) rfl rfl ⟨(blk_cell BK102.out 0).trans rfl, (blk_cell BK102.out 1).trans rfl, (blk_cell BK102.out 2).trans rfl, (blk_cell BK102.out 3).trans rfl, (blk_cell BK102.out 4).trans rfl⟩ (fun hHeld => ?_); refine with_tabW bound_Point.tab7 bound_Point.bits7 (fun HT_ HW_ => ?_)
        generalize wr.drew = w9 at BK102 HB hHeld ⊢
        refine pure_ (i := 0) (N := some 18) (v := ?_) (a' := ?_) #[true, false, false, false, false, false, false, false, false, false, false, false, false, false] rfl rfl (any_of HT_.out (by kernel_rfl)) (fun _ _ _ h => h) (Or.inl ⟨by rfl, ?_⟩) ?_ ?_
        rotate_left
        · intro w'
          go_simp
          with_reducible rfl
        rotate_left
        · simp only [Act.put, List.setIfInBounds_toArray, List.set_cons_zero, List.set_cons_succ, i64_w]
          rfl
        refine pure_ (i := 2) (N := some 20) (v := ?_) (a' := ?_) #[true, false, true, false, false, false, false, false, false, false, false, false, false, false] rfl rfl (any_of HT_.out (by kernel_rfl)) (fun _ _ _ h => h) (Or.inl ⟨by rfl, ?_⟩) ?_ ?_
        rotate_left
        · intro w'
          go_simp
          with_reducible rfl
        rotate_left
        · simp only [Act.put, List.setIfInBounds_toArray, List.set_cons_zero, List.set_cons_succ, i64_w]
          rfl
        refine pure_ (i := 3) (N := some 21) (v := ?_) (a' := ?_) #[true, false, true, true, false, false, false, false, false, false, false, false, false, false] rfl rfl (any_of HT_.out (by kernel_rfl)) (fun _ _ _ h => h) (Or.inl ⟨by rfl, ?_⟩) ?_ ?_
        rotate_left
        · intro w'
          go_simp
          with_reducible rfl
        rotate_left
        · simp only [Act.put, List.setIfInBounds_toArray, List.set_cons_zero, List.set_cons_succ, i64_w]
          rfl
        refine pure_ (i := 4) (N := some 22) (v := ?_) (a' := ?_) #[true, false, true, true, true, false, false, false, false, false, false, false, false, false] rfl rfl (any_of HT_.out (by kernel_rfl)) (fun _ _ _ h => h) (Or.inl ⟨by rfl, ?_⟩) ?_ ?_
        rotate_left
        · intro w'
          go_simp
          with_reducible rfl
        rotate_left
        · simp only [Act.put, List.setIfInBounds_toArray, List.set_cons_zero, List.set_cons_succ, i64_w]
          rfl
        refine pure_ (i := 5) (N := some 23) (v := ?_) (a' := ?_) #[true, false, true, true, true, true, false, false, false, false, false, false, false, false] rfl rfl (any_of HT_.out (by kernel_rfl)) (fun _ _ _ h => h) (Or.inl ⟨by rfl, ?_⟩) ?_ ?_
        rotate_left
        · intro w'
          go_simp
          with_reducible rfl
        rotate_left
        · simp only [Act.put, List.setIfInBounds_toArray, List.set_cons_zero, List.set_cons_succ, i64_w]
          rfl
        refine pure_ (i := 6) (N := some 24) (v := ?_) (a' := ?_) #[true, false, true, true, true, true, true, false, false, false, false, false, false, false] rfl rfl (any_of HT_.out (by kernel_rfl)) (fun _ _ _ h => h) (Or.inl ⟨by rfl, ?_⟩) ?_ ?_
        rotate_left
        · intro w'
          go_simp
          with_reducible rfl
        rotate_left
        · simp only [Act.put, List.setIfInBounds_toArray, List.set_cons_zero, List.set_cons_succ, i64_w]
          rfl
        refine pure_ (i := 7) (N := some 25) (v := ?_) (a' := ?_) #[true, false, true, true, true, true, true, true, false, false, false, false, false, false] rfl rfl (any_of HT_.out (by kernel_rfl)) (fun _ _ _ h => h) (Or.inl ⟨by rfl, ?_⟩) ?_ ?_
        rotate_left
        · intro w'
          go_simp
          with_reducible rfl
        rotate_left
        · simp only [Act.put, List.setIfInBounds_toArray, List.set_cons_zero, List.set_cons_succ, i64_w]
          rfl
        refine take_ (i := 1) (N := some 19) (v := ?_) (a' := ?_) #[true, true, true, true, true, true, true, true, false, false, false, false, false, false] rfl rfl (take_ofW HT_.out HW_.out (by kernel_rfl)) (fun _ _ _ h => h) (Or.inl ⟨by rfl, ?_⟩) hHeld ?_ ?_
        rotate_left
        · rintro w' ⟨s0, s1, s2, s3, s4⟩
          go_simp
          with_reducible rfl
        rotate_left
        · simp only [Act.put, List.setIfInBounds_toArray, List.set_cons_zero, List.set_cons_succ, i64_w]
          rfl
        refine one_ (i := 8) (N := some 26) #[true, true, true, true, true, true, true, true, true, false, false, false, false, false] rfl rfl (one_of HT_.out (by kernel_rfl)) (by decide) (fun K hK => ?_)
        refine Kd.R_lit_step (Kd.int .i64) _ 3 ?hg (N := 26) ?hd (xs := ([a1, a2, wrap64 ((wrap64 (a0_0 + 1)) * (wrap64 (a0_0 + 1)))] : List Int)) (inner := [.int .i64 a1, .int .i64 a2, .int .i64 (wrap64 ((wrap64 (a0_0 + 1)) * (wrap64 (a0_0 + 1))))]) (ok := fun _ => True) (okp := fun _ => True) ?hr ?hp (fun _ hk => hk) trivial (Below.refl _ _) (Nat.le_refl _) (by simp) ?_; (case hd => rfl); (case hg => rfl); (case hr => first | (go_simp; done) | (go_simp; rfl)); (case hp => exact (Reps.one (show Kd.M (Kd.int .i64) _ _ _ a1 [.int .i64 a1] from rfl) (Reps.one (show Kd.M (Kd.int .i64) _ _ _ a2 [.int .i64 a2] from rfl) (Reps.one (show Kd.M (Kd.int .i64) _ _ _ (wrap64 ((wrap64 (a0_0 + 1)) * (wrap64 (a0_0 + 1)))) [.int .i64 (wrap64 ((wrap64 (a0_0 + 1)) * (wrap64 (a0_0 + 1))))] from rfl) (Reps.none _ _)))))
        intro v104 w10 ho11 hb hg_ hnew_
        clear hg_ hnew_
        (first | rw [← Ny103.out] at ho11 | (simp only [Int.reduceToNat] at ho11; rw [← Ny103.out] at ho11))
        have n0_ := Aside0.mk (Kd.R_lower ho11 (below_size (by repeat (first | (with_reducible first | exact HB.out | apply below_alloc | apply pw_below_drewN | apply below_drew1 | refine below_set ?_ GE102.out) | exact HB.out))))
        have n1_ := Aside0.mk (blk_below (g := gb102) (o := .cells #[.int .i64 a0_0, .int .i64 a0_1, .int .i64 a0_2, .int .i64 a0_3, .int .i64 a0_4] 23 (0, 0)) (by (with_reducible repeat (first | refine blk_drewN ?_ _ | refine blk_drew ?_ | refine blk_alloc ?_ _)); exact BK102.out) hb)
        have n2_ := Aside0.mk (below_step (by repeat (first | (with_reducible first | exact HB.out | apply below_alloc | apply pw_below_drewN | apply below_drew1 | refine below_set ?_ GE102.out) | exact HB.out)) hb)
        clear BK102
        clear HB
        have HO105 := n0_
        have BK102 := n1_
        have HB := n2_
        clear n0_ n1_ n2_
        clear hb ho11
        obtain ⟨Ao12, co12, eo12⟩ := Kd.R_slice HO105.out
        (first | subst eo12 | (injection eo12 with f1_ f2_ f3_; have f4_ := f1_.symm; have f5_ := f3_.symm; clear f1_ f2_ f3_; subst f4_; subst f5_))
        refine hK.out _ _ ⟨(blk_cell BK102.out 0).trans rfl, (blk_cell BK102.out 1).trans rfl, (blk_cell BK102.out 2).trans rfl, (blk_cell BK102.out 3).trans rfl, (blk_cell BK102.out 4).trans rfl⟩ (fun hHeld => ?_)
        clear hK K
        refine norm_ (a' := ?_) ?_ ?_
        rotate_left
        · show Act.put _ (some 26) _ = _
          simp only [Act.put, List.setIfInBounds_toArray, List.set_cons_zero, List.set_cons_succ, i64_w]
          rfl
        refine one_ (i := 9) (N := some 27) #[true, true, true, true, true, true, true, true, true, true, false, false, false, false] rfl rfl (one_of HT_.out (by kernel_rfl)) (by decide) (fun K hK => ?_)
        refine goes_ Try.func15 (by kernel_rfl) rfl #[.slice Ao12 y103.length co12] (by rfl) rfl rfl (by (try simp only [List.map_toArray, List.map_cons, List.map_nil]); first | done | rfl | (simp only [List.length_drop, List.length_take]; rfl)) ?_
        with_reducible refine (bound_sum.calls k1 _ _ y103 t106 _ ?side1 ?side2 A7.out).mono ?_
        (case side1 => repeat (first | exact (Kd.R_reads' HO105.out).2.2 | (with_reducible refine Kd.C_alloc ?_ _) | (with_reducible refine Kd.C_drewN ?_ _) | (with_reducible refine Kd.C_drew ?_)))
        (case side2 => exact (Kd.R_reads' HO105.out).2.1)
        rintro e w' ⟨rfl, ⟨nd, rfl⟩⟩
        refine ⟨_, rfl, ?_⟩
        refine hK.out _ _ ⟨(blk_cell BK102.out 0).trans rfl, (blk_cell BK102.out 1).trans rfl, (blk_cell BK102.out 2).trans rfl, (blk_cell BK102.out 3).trans rfl, (blk_cell BK102.out 4).trans rfl⟩ (fun hHeld => ?_)
        clear hK K
        refine norm_ (a' := ?_) ?_ ?_
        rotate_left
        · show Act.put _ (some 27) _ = _
          simp only [Act.put, List.setIfInBounds_toArray, List.set_cons_zero, List.set_cons_succ, i64_w]
          rfl
        refine pure_ (i := 10) (N := some 28) (v := ?_) (a' := ?_) #[true, true, true, true, true, true, true, true, true, true, true, false, false, false] rfl rfl (any_of HT_.out (by kernel_rfl)) (fun _ _ _ h => h) (Or.inl ⟨by rfl, ?_⟩) ?_ ?_
        rotate_left
        · intro w'
          go_simp
          with_reducible rfl
        rotate_left
        · simp only [Act.put, List.setIfInBounds_toArray, List.set_cons_zero, List.set_cons_succ, i64_w]
          rfl
        refine one_ (i := 11) (N := some 29) #[true, true, true, true, true, true, true, true, true, true, true, true, false, false] rfl rfl (one_of HT_.out (by kernel_rfl)) (by decide) (fun K hK => ?_)
        refine Kd.R_lit_step (Kd.int .i64) _ 3 ?hg (N := 29) ?hd (xs := ([a0_3, wrap64 (x8_1 * t106)] : List Int)) (inner := [.int .i64 a0_3, .int .i64 (wrap64 (x8_1 * t106))]) (ok := fun _ => True) (okp := fun _ => True) ?hr ?hp (fun _ hk => hk) trivial (Below.refl _ _) (Nat.le_refl _) (by simp) ?_; (case hd => rfl); (case hg => rfl); (case hr => first | (go_simp; done) | (go_simp; rfl)); (case hp => exact (Reps.one (show Kd.M (Kd.int .i64) _ _ _ a0_3 [.int .i64 a0_3] from rfl) (Reps.one (show Kd.M (Kd.int .i64) _ _ _ (wrap64 (x8_1 * t106)) [.int .i64 (wrap64 (x8_1 * t106))] from rfl) (Reps.none _ _))))
        intro v108 w13 ho14 hb hg_ hnew_
        clear hg_ hnew_
        (first | rw [← Ny107.out] at ho14 | (simp only [Int.reduceToNat] at ho14; rw [← Ny107.out] at ho14))
        have n0_ := Aside0.mk (Kd.R_elder' (by (with_reducible repeat (first | apply Kd.R_alloc | apply Kd.R_drewN | apply Kd.R_drew)); exact HO105.out) (Kd.R_base ho14) hb)
        have n1_ := Aside0.mk (Kd.R_lower (Kd.R_new' ho14 (Kd.R_lt (by (with_reducible repeat (first | apply Kd.R_alloc | apply Kd.R_drewN | apply Kd.R_drew)); exact HO105.out))) (below_size (by repeat (first | (with_reducible first | exact HB.out | apply below_alloc | apply pw_below_drewN | apply below_drew1 | refine below_set ?_ GE102.out) | exact HB.out))))
        have n2_ := Aside0.mk (blk_below (g := gb102) (o := .cells #[.int .i64 a0_0, .int .i64 a0_1, .int .i64 a0_2, .int .i64 a0_3, .int .i64 a0_4] 23 (0, 0)) (by (with_reducible repeat (first | refine blk_drewN ?_ _ | refine blk_drew ?_ | refine blk_alloc ?_ _)); exact BK102.out) hb)
        have n3_ := Aside0.mk (below_step (by repeat (first | (with_reducible first | exact HB.out | apply below_alloc | apply pw_below_drewN | apply below_drew1 | refine below_set ?_ GE102.out) | exact HB.out)) hb)
        clear HO105
        clear BK102
        clear HB
        have HO105 := n0_
        have HO109 := n1_
        have BK102 := n2_
        have HB := n3_
        clear n0_ n1_ n2_ n3_
        clear hb ho14
        obtain ⟨Ao15, co15, eo15⟩ := Kd.R_slice HO109.out
        (first | subst eo15 | (injection eo15 with f1_ f2_ f3_; have f4_ := f1_.symm; have f5_ := f3_.symm; clear f1_ f2_ f3_; subst f4_; subst f5_))
        refine hK.out _ _ ⟨(blk_cell BK102.out 0).trans rfl, (blk_cell BK102.out 1).trans rfl, (blk_cell BK102.out 2).trans rfl, (blk_cell BK102.out 3).trans rfl, (blk_cell BK102.out 4).trans rfl⟩ (fun hHeld => ?_)
        clear hK K
        refine norm_ (a' := ?_) ?_ ?_
        rotate_left
        · show Act.put _ (some 29) _ = _
          simp only [Act.put, List.setIfInBounds_toArray, List.set_cons_zero, List.set_cons_succ, i64_w]
          rfl
        refine one_ (i := 12) (N := some 30) #[true, true, true, true, true, true, true, true, true, true, true, true, true, false] rfl rfl (one_of HT_.out (by kernel_rfl)) (by decide) (fun K hK => ?_)
        refine goes_ Try.func15 (by kernel_rfl) rfl #[.slice Ao15 y107.length co15] (by rfl) rfl rfl (by (try simp only [List.map_toArray, List.map_cons, List.map_nil]); first | done | rfl | (simp only [List.length_drop, List.length_take]; rfl)) ?_
        with_reducible refine (bound_sum.calls k1 _ _ y107 t110 _ ?side1 ?side2 A8.out).mono ?_
        (case side1 => repeat (first | exact (Kd.R_reads' HO109.out).2.2 | (with_reducible refine Kd.C_alloc ?_ _) | (with_reducible refine Kd.C_drewN ?_ _) | (with_reducible refine Kd.C_drew ?_)))
        (case side2 => exact (Kd.R_reads' HO109.out).2.1)
        rintro e w' ⟨rfl, ⟨nd, rfl⟩⟩
        refine ⟨_, rfl, ?_⟩
        refine hK.out _ _ ⟨(blk_cell BK102.out 0).trans rfl, (blk_cell BK102.out 1).trans rfl, (blk_cell BK102.out 2).trans rfl, (blk_cell BK102.out 3).trans rfl, (blk_cell BK102.out 4).trans rfl⟩ (fun hHeld => ?_)
        clear hK K
        refine norm_ (a' := ?_) ?_ ?_
        rotate_left
        · show Act.put _ (some 30) _ = _
          simp only [Act.put, List.setIfInBounds_toArray, List.set_cons_zero, List.set_cons_succ, i64_w]
          rfl
        refine pure_ (i := 13) (N := some 6) (v := ?_) (a' := ?_) #[true, true, true, true, true, true, true, true, true, true, true, true, true, true] rfl rfl (any_of HT_.out (by kernel_rfl)) (fun _ _ _ h => h) (Or.inl ⟨by rfl, ?_⟩) ?_ ?_
        rotate_left
        · intro w'
          go_simp
          with_reducible rfl
        rotate_left
        · simp only [Act.put, List.setIfInBounds_toArray, List.set_cons_zero, List.set_cons_succ, i64_w]
          rfl
        refine done_ (done_of HT_.out (by kernel_rfl)) ?_
        try go_wp2
        go_ret
        exact ⟨by first | rfl | (simp [errW_none, errW_some] <;> rfl) | (simp [*, errW_none, errW_some] <;> rfl), by repeat (first | (with_reducible first | exact HB.out | apply below_alloc | apply pw_below_drewN | apply below_drew1 | refine below_set ?_ GE102.out) | exact HB.out)⟩
def bound_Scan.f (k : Nat) (a0_0 : Int) (a0_1 : Int) (a0_2 : Int) (a0_3 : Int) (a0_4 : Int) (a1 : Int) (a2 : Int) : Option (Int) := (bound_sum.f k (([a0_1, a1, a0_0, a2, 1] : List Int))).bind fun t115 => (some (wrap64 (64 * t115)))
set_option maxHeartbeats 8000000 in
set_option maxRecDepth 100000 in
theorem bound_Scan.calls (k : Nat) (a0_0 : Int) (a0_1 : Int) (a0_2 : Int) (a0_3 : Int) (a0_4 : Int) (a1 : Int) (a2 : Int) (r : Int) (w : World) (h : bound_Scan.f k a0_0 a0_1 a0_2 a0_3 a0_4 a1 a2 = some r) :
    Calls Try.prog 10 #[.agg #[.int .i64 a0_0, .int .i64 a0_1, .int .i64 a0_2, .int .i64 a0_3, .int .i64 a0_4], .int .i64 a1, .int .i64 a2] w fun e w' => e = .returned (.int .i64 r) ∧ Below w.heap.size w w' := by
  have hu23 := Try.underlying23
  have HB := Aside0.mk (Below.refl w.heap.size w)
  have H : ((bound_sum.f k (([a0_1, a1, a0_0, a2, 1] : List Int))).bind fun t115 => (some (wrap64 (64 * t115)))) = some r := h
  clear h
  obtain ⟨y112, hy112⟩ : ∃ y_ : List Int, y_ = (([a0_1, a1, a0_0, a2, 1] : List Int)) := ⟨_, rfl⟩
  replace H : ((bound_sum.f k y112).bind fun t115 => (some (wrap64 (64 * t115)))) = some r := by first | (rw [hy112]; with_reducible exact H) | (have H2_ := (Option.bind_some _ _).symm.trans H; rw [hy112]; with_reducible exact H2_) | (have H2_ := (Option.bind_some _ _).symm.trans H; with_reducible exact H2_) | with_reducible exact H | (rw [hy112]; exact H) | exact H
  have Ny112 := Aside0.mk hy112
  clear hy112
  replace H := Option.bind_eq_some_iff.mp H
  obtain ⟨t115, A40, H⟩ := H
  replace H : (some (wrap64 (64 * t115))) = some r := H
  have A4 := Aside0.mk A40
  clear A40
  obtain rfl := Option.some.inj H
  go_enter Try.func10, Try.ntmps10
  go_wp2_with (first | ((with_reducible refine gate_dst (N := 3) rfl ?_); refine box_event ?hg (N := 3) ?hd (cs := #[.int .i64 a0_0, .int .i64 a0_1, .int .i64 a0_2, .int .i64 a0_3, .int .i64 a0_4]) (t := 23) ?hr ?_; (case hd => rfl); (case hg => rfl); (case hr => first | (go_simp; done) | (go_simp; rfl)); intro gb111 hg w5 hbox hb; have n0_ := Aside0.mk (below_step (by repeat (first | (with_reducible first | exact HB.out | apply below_alloc | apply pw_below_drewN | apply below_drew1) | exact HB.out)) hb); have n1_ := Aside0.mk (hbox); have n2_ := Aside0.mk ((by rw [hg]; exact (below_size (by repeat (first | (with_reducible first | exact HB.out | apply below_alloc | apply pw_below_drewN | apply below_drew1) | exact HB.out))) : w.heap.size ≤ gb111)); have n3_ := Aside0.mk ((by rw [hg]; exact (below_size (by repeat (first | (with_reducible first | exact HB.out | apply below_alloc | apply pw_below_drewN | apply below_drew1) | exact HB.out))) : w.heap.size ≤ gb111)); clear HB; have HB := n0_; have BK111 := n1_; have GW111 := n2_; have GE111 := n3_; clear n0_ n1_ n2_ n3_; clear hb hbox hg; have hcz6_0 : w5.cell? ⟨gb111, 0, none⟩ = some (.int .i64 a0_0) := (blk_cell BK111.out 0).trans rfl; have hcz6_1 : w5.cell? ⟨gb111, 1, none⟩ = some (.int .i64 a0_1) := (blk_cell BK111.out 1).trans rfl; have hcz6_2 : w5.cell? ⟨gb111, 2, none⟩ = some (.int .i64 a0_2) := (blk_cell BK111.out 2).trans rfl; have hcz6_3 : w5.cell? ⟨gb111, 3, none⟩ = some (.int .i64 a0_3) := (blk_cell BK111.out 3).trans rfl; have hcz6_4 : w5.cell? ⟨gb111, 4, none⟩ = some (.int .i64 a0_4) := (blk_cell BK111.out 4).trans rfl; have hfz6_0 := blk_frozen BK111.out 0; have hfz6_1 := blk_frozen BK111.out 1; have hfz6_2 := blk_frozen BK111.out 2; have hfz6_3 := blk_frozen BK111.out 3; have hfz6_4 := blk_frozen BK111.out 4) | ((with_reducible refine gate_dst (N := 13) rfl ?_); refine Kd.R_lit (Kd.int .i64) _ 3 ?hg (N := 13) ?hd (xs := ([a0_1, a1, a0_0, a2, 1] : List Int)) (inner := [.int .i64 a0_1, .int .i64 a1, .int .i64 a0_0, .int .i64 a2, .int .i64 1]) (ok := fun _ => True) (okp := fun _ => True) ?hr ?hp (fun _ hk => hk) trivial (Below.refl _ _) (Nat.le_refl _) (by simp) ?_; (case hd => rfl); (case hg => rfl); (case hr => first | (go_simp; done) | (go_simp; rfl)); (case hp => exact (Reps.one (show Kd.M (Kd.int .i64) _ _ _ a0_1 [.int .i64 a0_1] from rfl) (Reps.one (show Kd.M (Kd.int .i64) _ _ _ a1 [.int .i64 a1] from rfl) (Reps.one (show Kd.M (Kd.int .i64) _ _ _ a0_0 [.int .i64 a0_0] from rfl) (Reps.one (show Kd.M (Kd.int .i64) _ _ _ a2 [.int .i64 a2] from rfl) (Reps.one (show Kd.M (Kd.int .i64) _ _ _ 1 [.int .i64 1] from rfl) (Reps.none _ _))))))); intro v113 w7 ho8 hb hg_ hnew_; clear hg_ hnew_; (first | rw [← Ny112.out] at ho8 | (simp only [Int.reduceToNat] at ho8; rw [← Ny112.out] at ho8)); have n0_ := Aside0.mk (Kd.R_lower ho8 (below_size (by repeat (first | (with_reducible first | exact HB.out | apply below_alloc | apply pw_below_drewN | apply below_drew1 | refine below_set ?_ GE111.out) | exact HB.out)))); have n1_ := Aside0.mk (blk_below (g := gb111) (o := .cells #[.int .i64 a0_0, .int .i64 a0_1, .int .i64 a0_2, .int .i64 a0_3, .int .i64 a0_4] 23 (0, 0)) (by (with_reducible repeat (first | refine blk_drewN ?_ _ | refine blk_drew ?_ | refine blk_alloc ?_ _)); exact BK111.out) hb); have n2_ := Aside0.mk (below_step (by repeat (first | (with_reducible first | exact HB.out | apply below_alloc | apply pw_below_drewN | apply below_drew1 | refine below_set ?_ GE111.out) | exact HB.out)) hb); clear BK111; clear HB; have HO114 := n0_; have BK111 := n1_; have HB := n2_; clear n0_ n1_ n2_; clear hb ho8; obtain ⟨Ao9, co9, eo9⟩ := Kd.R_slice HO114.out; subst eo9) | ((with_reducible refine gate_callee (f := 15) rfl ?_); refine goesL_ (some 14) rfl rfl Try.func15 (by kernel_rfl) rfl #[.slice Ao9 y112.length co9] rfl (by (try simp only [List.map_toArray, List.map_cons, List.map_nil]); first | done | rfl | (simp only [List.length_drop, List.length_take]; rfl)) ?_; (with_reducible refine (bound_sum.calls k _ _ y112 t115 _ ?side1 ?side2 A4.out).mono ?_); (case side1 => repeat (first | exact (Kd.R_reads' HO114.out).2.2 | (with_reducible refine Kd.C_alloc ?_ _) | (with_reducible refine Kd.C_drewN ?_ _) | (with_reducible refine Kd.C_drew ?_))); (case side2 => exact (Kd.R_reads' HO114.out).2.1); rintro e w' ⟨rfl, ⟨nd, rfl⟩⟩; refine ⟨_, rfl, ?_⟩))
  go_ret
  exact ⟨by first | rfl | (simp [errW_none, errW_some] <;> rfl) | (simp [*, errW_none, errW_some] <;> rfl), by repeat (first | (with_reducible first | exact HB.out | apply below_alloc | apply pw_below_drewN | apply below_drew1 | refine below_set ?_ GE111.out) | exact HB.out)⟩
theorem hsz_heap : Kd.Heap k54 := by
 unfold k54
 refine Kd.heap_iso _ (Kd.heap_pair (Kd.heap_int _) (Kd.heap_pair (Kd.heap_int _) (Kd.heap_pair (Kd.heap_int _) (Kd.heap_pair (Kd.heap_int _) (Kd.heap_pair (Kd.heap_int _) (Kd.heap_pair ?_ ?_))))))
 ·exact Kd.heap_iso _ (Kd.heap_pair (Kd.heap_int _) (Kd.heap_pair (Kd.heap_int _) (Kd.heap_pair (Kd.heap_int _) (Kd.heap_int _))))
 ·exact Kd.heap_iso _ (Kd.heap_pair (Kd.heap_int _) (Kd.heap_pair Kd.heap_bool (Kd.heap_pair (Kd.heap_int _) (Kd.heap_slice _ (Kd.heap_iso _ (Kd.heap_pair (Kd.heap_int _) (Kd.heap_int _)))))))
theorem hsz_up {w w1 : World} {A : Option Addr} {n : Nat} {xs : List S54} (h : Kd.C k54 w A n xs) (hb : Below w.heap.size w w1) : Kd.C k54 w1 A n xs := hsz_heap.C (fun k hk => hb.block k hk) h
def history_Size11.f (x : S54) (kd : Int) (at_ : Int) : Bool := if x.f5.f0 = kd then (if x.f6.f1 = true then (if x.f3 ≥ 0 then decide (x.f3 < at_) else false) else false) else false
set_option maxHeartbeats 8000000 in
set_option maxRecDepth 100000 in
theorem history_Size11.calls (x : S54) (A : Option Addr) (c : Nat) (kd : Int) (at_ : Int) (g1 g2 : Nat) (W : World) (hk : W.heap[g1]? = some (.cells #[.int .i64 kd] 3 (0, 0))) (ha : W.heap[g2]? = some (.cells #[.int .i64 at_] 3 (0, 0))) :
    Calls Try.prog 26 #[.agg #[.int .i64 x.f0, .int .i64 x.f1, .int .i64 x.f2, .int .i64 x.f3, .int .i64 x.f4, .int .i64 x.f5.f0, .int .u64 x.f5.f1, .int .u64 x.f5.f2, .int .i64 x.f5.f3, .int .i64 x.f6.f0, .bool x.f6.f1, .int .u64 x.f6.f2, .slice A x.f6.f3.length c], .pointer (some ⟨g1, 0, none⟩), .pointer (some ⟨g2, 0, none⟩)] W fun e w' => e = .returned (.bool (history_Size11.f x kd at_)) ∧ Below W.heap.size W w' := by
  have Bhk := Aside0.mk hk
  have Bha := Aside0.mk ha
  clear hk ha
  have HB := Aside0.mk (Below.refl W.heap.size W)
  unfold history_Size11.f
  by_cases c1 : x.f5.f0 = kd
  · rw [if_pos c1]
    have c1b0 : decide (x.f5.f0 = kd) = true := decide_eq_true c1
    have c1b1 : (x.f5.f0 == kd) = true := beq_iff_eq.mpr c1
    by_cases c2 : x.f6.f1 = true
    · rw [if_pos c2]
      have c2b0 : x.f6.f1 = true := id c2
      by_cases c3 : x.f3 ≥ 0
      · rw [if_pos c3]
        have c3b0 : decide (0 ≤ x.f3) = true := decide_eq_true c3
        go_enter Try.func26, Try.ntmps26
        go_wp2_with (first | ((with_reducible refine gate_dst (N := 3) rfl ?_); refine box_event ?hg (N := 3) ?hd (cs := #[.int .i64 x.f0, .int .i64 x.f1, .int .i64 x.f2, .int .i64 x.f3, .int .i64 x.f4, .int .i64 x.f5.f0, .int .u64 x.f5.f1, .int .u64 x.f5.f2, .int .i64 x.f5.f3, .int .i64 x.f6.f0, .bool x.f6.f1, .int .u64 x.f6.f2, .slice A x.f6.f3.length c]) (t := 54) ?hr ?_; (case hd => rfl); (case hg => rfl); (case hr => first | (go_simp; done) | (go_simp; rfl)); intro gb hg wb hbox hb; have BX := Aside0.mk hbox; have n0_ := Aside0.mk (below_step HB.out hb); clear HB; have HB := n0_; clear n0_; have cx_3 : wb.cell? ⟨gb, 3, none⟩ = some (.int .i64 x.f3) := (blk_cell BX.out 3).trans rfl; have cx_5 : wb.cell? ⟨gb, 5, none⟩ = some (.int .i64 x.f5.f0) := (blk_cell BX.out 5).trans rfl; have cx_10 : wb.cell? ⟨gb, 10, none⟩ = some (.bool x.f6.f1) := (blk_cell BX.out 10).trans rfl; have n_hk := Aside0.mk (blk_below (g := g1) (o := .cells #[.int .i64 kd] 3 (0, 0)) Bhk.out hb); have n_ha := Aside0.mk (blk_below (g := g2) (o := .cells #[.int .i64 at_] 3 (0, 0)) Bha.out hb); have chk_0 : wb.cell? ⟨g1, 0, none⟩ = some (.int .i64 kd) := (blk_cell n_hk.out 0).trans rfl; have cha_0 : wb.cell? ⟨g2, 0, none⟩ = some (.int .i64 at_) := (blk_cell n_ha.out 0).trans rfl; clear hb hbox hg))
        go_ret
        exact ⟨by first | rfl | (simp [*]; done), by repeat (first | (with_reducible first | exact HB.out | apply below_alloc | apply pw_below_drewN | apply below_drew1) | exact HB.out)⟩
      · rw [if_neg c3]
        have c3b0 : decide (0 ≤ x.f3) = false := decide_eq_false c3
        go_enter Try.func26, Try.ntmps26
        go_wp2_with (first | ((with_reducible refine gate_dst (N := 3) rfl ?_); refine box_event ?hg (N := 3) ?hd (cs := #[.int .i64 x.f0, .int .i64 x.f1, .int .i64 x.f2, .int .i64 x.f3, .int .i64 x.f4, .int .i64 x.f5.f0, .int .u64 x.f5.f1, .int .u64 x.f5.f2, .int .i64 x.f5.f3, .int .i64 x.f6.f0, .bool x.f6.f1, .int .u64 x.f6.f2, .slice A x.f6.f3.length c]) (t := 54) ?hr ?_; (case hd => rfl); (case hg => rfl); (case hr => first | (go_simp; done) | (go_simp; rfl)); intro gb hg wb hbox hb; have BX := Aside0.mk hbox; have n0_ := Aside0.mk (below_step HB.out hb); clear HB; have HB := n0_; clear n0_; have cx_3 : wb.cell? ⟨gb, 3, none⟩ = some (.int .i64 x.f3) := (blk_cell BX.out 3).trans rfl; have cx_5 : wb.cell? ⟨gb, 5, none⟩ = some (.int .i64 x.f5.f0) := (blk_cell BX.out 5).trans rfl; have cx_10 : wb.cell? ⟨gb, 10, none⟩ = some (.bool x.f6.f1) := (blk_cell BX.out 10).trans rfl; have n_hk := Aside0.mk (blk_below (g := g1) (o := .cells #[.int .i64 kd] 3 (0, 0)) Bhk.out hb); have n_ha := Aside0.mk (blk_below (g := g2) (o := .cells #[.int .i64 at_] 3 (0, 0)) Bha.out hb); have chk_0 : wb.cell? ⟨g1, 0, none⟩ = some (.int .i64 kd) := (blk_cell n_hk.out 0).trans rfl; have cha_0 : wb.cell? ⟨g2, 0, none⟩ = some (.int .i64 at_) := (blk_cell n_ha.out 0).trans rfl; clear hb hbox hg))
        go_ret
        exact ⟨by first | rfl | (simp [*]; done), by repeat (first | (with_reducible first | exact HB.out | apply below_alloc | apply pw_below_drewN | apply below_drew1) | exact HB.out)⟩
    · rw [if_neg c2]
      have c2b0 : x.f6.f1 = false := Bool.eq_false_iff.mpr c2
      go_enter Try.func26, Try.ntmps26
      go_wp2_with (first | ((with_reducible refine gate_dst (N := 3) rfl ?_); refine box_event ?hg (N := 3) ?hd (cs := #[.int .i64 x.f0, .int .i64 x.f1, .int .i64 x.f2, .int .i64 x.f3, .int .i64 x.f4, .int .i64 x.f5.f0, .int .u64 x.f5.f1, .int .u64 x.f5.f2, .int .i64 x.f5.f3, .int .i64 x.f6.f0, .bool x.f6.f1, .int .u64 x.f6.f2, .slice A x.f6.f3.length c]) (t := 54) ?hr ?_; (case hd => rfl); (case hg => rfl); (case hr => first | (go_simp; done) | (go_simp; rfl)); intro gb hg wb hbox hb; have BX := Aside0.mk hbox; have n0_ := Aside0.mk (below_step HB.out hb); clear HB; have HB := n0_; clear n0_; have cx_3 : wb.cell? ⟨gb, 3, none⟩ = some (.int .i64 x.f3) := (blk_cell BX.out 3).trans rfl; have cx_5 : wb.cell? ⟨gb, 5, none⟩ = some (.int .i64 x.f5.f0) := (blk_cell BX.out 5).trans rfl; have cx_10 : wb.cell? ⟨gb, 10, none⟩ = some (.bool x.f6.f1) := (blk_cell BX.out 10).trans rfl; have n_hk := Aside0.mk (blk_below (g := g1) (o := .cells #[.int .i64 kd] 3 (0, 0)) Bhk.out hb); have n_ha := Aside0.mk (blk_below (g := g2) (o := .cells #[.int .i64 at_] 3 (0, 0)) Bha.out hb); have chk_0 : wb.cell? ⟨g1, 0, none⟩ = some (.int .i64 kd) := (blk_cell n_hk.out 0).trans rfl; have cha_0 : wb.cell? ⟨g2, 0, none⟩ = some (.int .i64 at_) := (blk_cell n_ha.out 0).trans rfl; clear hb hbox hg))
      go_ret
      exact ⟨by first | rfl | (simp [*]; done), by repeat (first | (with_reducible first | exact HB.out | apply below_alloc | apply pw_below_drewN | apply below_drew1) | exact HB.out)⟩
  · rw [if_neg c1]
    have c1b0 : decide (x.f5.f0 = kd) = false := decide_eq_false c1
    have c1b1 : (x.f5.f0 == kd) = false := beq_eq_false_iff_ne.mpr c1
    go_enter Try.func26, Try.ntmps26
    go_wp2_with (first | ((with_reducible refine gate_dst (N := 3) rfl ?_); refine box_event ?hg (N := 3) ?hd (cs := #[.int .i64 x.f0, .int .i64 x.f1, .int .i64 x.f2, .int .i64 x.f3, .int .i64 x.f4, .int .i64 x.f5.f0, .int .u64 x.f5.f1, .int .u64 x.f5.f2, .int .i64 x.f5.f3, .int .i64 x.f6.f0, .bool x.f6.f1, .int .u64 x.f6.f2, .slice A x.f6.f3.length c]) (t := 54) ?hr ?_; (case hd => rfl); (case hg => rfl); (case hr => first | (go_simp; done) | (go_simp; rfl)); intro gb hg wb hbox hb; have BX := Aside0.mk hbox; have n0_ := Aside0.mk (below_step HB.out hb); clear HB; have HB := n0_; clear n0_; have cx_3 : wb.cell? ⟨gb, 3, none⟩ = some (.int .i64 x.f3) := (blk_cell BX.out 3).trans rfl; have cx_5 : wb.cell? ⟨gb, 5, none⟩ = some (.int .i64 x.f5.f0) := (blk_cell BX.out 5).trans rfl; have cx_10 : wb.cell? ⟨gb, 10, none⟩ = some (.bool x.f6.f1) := (blk_cell BX.out 10).trans rfl; have n_hk := Aside0.mk (blk_below (g := g1) (o := .cells #[.int .i64 kd] 3 (0, 0)) Bhk.out hb); have n_ha := Aside0.mk (blk_below (g := g2) (o := .cells #[.int .i64 at_] 3 (0, 0)) Bha.out hb); have chk_0 : wb.cell? ⟨g1, 0, none⟩ = some (.int .i64 kd) := (blk_cell n_hk.out 0).trans rfl; have cha_0 : wb.cell? ⟨g2, 0, none⟩ = some (.int .i64 at_) := (blk_cell n_ha.out 0).trans rfl; clear hb hbox hg))
    go_ret
    exact ⟨by first | rfl | (simp [*]; done), by repeat (first | (with_reducible first | exact HB.out | apply below_alloc | apply pw_below_drewN | apply below_drew1) | exact HB.out)⟩
def history_Size2.f (x : S54) (at_ : Int) : Bool := if x.f2 ≤ at_ then (if x.f3 < 0 then true else decide (x.f3 ≥ at_)) else false
set_option maxHeartbeats 8000000 in
set_option maxRecDepth 100000 in
theorem history_Size2.calls (x : S54) (A : Option Addr) (c : Nat) (at_ : Int) (g2 : Nat) (W : World) (ha : W.heap[g2]? = some (.cells #[.int .i64 at_] 3 (0, 0))) :
    Calls Try.prog 27 #[.agg #[.int .i64 x.f0, .int .i64 x.f1, .int .i64 x.f2, .int .i64 x.f3, .int .i64 x.f4, .int .i64 x.f5.f0, .int .u64 x.f5.f1, .int .u64 x.f5.f2, .int .i64 x.f5.f3, .int .i64 x.f6.f0, .bool x.f6.f1, .int .u64 x.f6.f2, .slice A x.f6.f3.length c], .pointer (some ⟨g2, 0, none⟩)] W fun e w' => e = .returned (.bool (history_Size2.f x at_)) ∧ Below W.heap.size W w' := by
  have Bha := Aside0.mk ha
  clear ha
  have HB := Aside0.mk (Below.refl W.heap.size W)
  unfold history_Size2.f
  by_cases c1 : x.f2 ≤ at_
  · rw [if_pos c1]
    have c1b0 : decide (x.f2 ≤ at_) = true := decide_eq_true c1
    by_cases c2 : x.f3 < 0
    · rw [if_pos c2]
      have c2b0 : decide (x.f3 < 0) = true := decide_eq_true c2
      go_enter Try.func27, Try.ntmps27
      go_wp2_with (first | ((with_reducible refine gate_dst (N := 2) rfl ?_); refine box_event ?hg (N := 2) ?hd (cs := #[.int .i64 x.f0, .int .i64 x.f1, .int .i64 x.f2, .int .i64 x.f3, .int .i64 x.f4, .int .i64 x.f5.f0, .int .u64 x.f5.f1, .int .u64 x.f5.f2, .int .i64 x.f5.f3, .int .i64 x.f6.f0, .bool x.f6.f1, .int .u64 x.f6.f2, .slice A x.f6.f3.length c]) (t := 54) ?hr ?_; (case hd => rfl); (case hg => rfl); (case hr => first | (go_simp; done) | (go_simp; rfl)); intro gb hg wb hbox hb; have BX := Aside0.mk hbox; have n0_ := Aside0.mk (below_step HB.out hb); clear HB; have HB := n0_; clear n0_; have cx_2 : wb.cell? ⟨gb, 2, none⟩ = some (.int .i64 x.f2) := (blk_cell BX.out 2).trans rfl; have cx_3 : wb.cell? ⟨gb, 3, none⟩ = some (.int .i64 x.f3) := (blk_cell BX.out 3).trans rfl; have n_ha := Aside0.mk (blk_below (g := g2) (o := .cells #[.int .i64 at_] 3 (0, 0)) Bha.out hb); have cha_0 : wb.cell? ⟨g2, 0, none⟩ = some (.int .i64 at_) := (blk_cell n_ha.out 0).trans rfl; clear hb hbox hg))
      go_ret
      exact ⟨by first | rfl | (simp [*]; done), by repeat (first | (with_reducible first | exact HB.out | apply below_alloc | apply pw_below_drewN | apply below_drew1) | exact HB.out)⟩
    · rw [if_neg c2]
      have c2b0 : decide (x.f3 < 0) = false := decide_eq_false c2
      go_enter Try.func27, Try.ntmps27
      go_wp2_with (first | ((with_reducible refine gate_dst (N := 2) rfl ?_); refine box_event ?hg (N := 2) ?hd (cs := #[.int .i64 x.f0, .int .i64 x.f1, .int .i64 x.f2, .int .i64 x.f3, .int .i64 x.f4, .int .i64 x.f5.f0, .int .u64 x.f5.f1, .int .u64 x.f5.f2, .int .i64 x.f5.f3, .int .i64 x.f6.f0, .bool x.f6.f1, .int .u64 x.f6.f2, .slice A x.f6.f3.length c]) (t := 54) ?hr ?_; (case hd => rfl); (case hg => rfl); (case hr => first | (go_simp; done) | (go_simp; rfl)); intro gb hg wb hbox hb; have BX := Aside0.mk hbox; have n0_ := Aside0.mk (below_step HB.out hb); clear HB; have HB := n0_; clear n0_; have cx_2 : wb.cell? ⟨gb, 2, none⟩ = some (.int .i64 x.f2) := (blk_cell BX.out 2).trans rfl; have cx_3 : wb.cell? ⟨gb, 3, none⟩ = some (.int .i64 x.f3) := (blk_cell BX.out 3).trans rfl; have n_ha := Aside0.mk (blk_below (g := g2) (o := .cells #[.int .i64 at_] 3 (0, 0)) Bha.out hb); have cha_0 : wb.cell? ⟨g2, 0, none⟩ = some (.int .i64 at_) := (blk_cell n_ha.out 0).trans rfl; clear hb hbox hg))
      go_ret
      exact ⟨by first | rfl | (simp [*]; done), by repeat (first | (with_reducible first | exact HB.out | apply below_alloc | apply pw_below_drewN | apply below_drew1) | exact HB.out)⟩
  · rw [if_neg c1]
    have c1b0 : decide (x.f2 ≤ at_) = false := decide_eq_false c1
    go_enter Try.func27, Try.ntmps27
    go_wp2_with (first | ((with_reducible refine gate_dst (N := 2) rfl ?_); refine box_event ?hg (N := 2) ?hd (cs := #[.int .i64 x.f0, .int .i64 x.f1, .int .i64 x.f2, .int .i64 x.f3, .int .i64 x.f4, .int .i64 x.f5.f0, .int .u64 x.f5.f1, .int .u64 x.f5.f2, .int .i64 x.f5.f3, .int .i64 x.f6.f0, .bool x.f6.f1, .int .u64 x.f6.f2, .slice A x.f6.f3.length c]) (t := 54) ?hr ?_; (case hd => rfl); (case hg => rfl); (case hr => first | (go_simp; done) | (go_simp; rfl)); intro gb hg wb hbox hb; have BX := Aside0.mk hbox; have n0_ := Aside0.mk (below_step HB.out hb); clear HB; have HB := n0_; clear n0_; have cx_2 : wb.cell? ⟨gb, 2, none⟩ = some (.int .i64 x.f2) := (blk_cell BX.out 2).trans rfl; have cx_3 : wb.cell? ⟨gb, 3, none⟩ = some (.int .i64 x.f3) := (blk_cell BX.out 3).trans rfl; have n_ha := Aside0.mk (blk_below (g := g2) (o := .cells #[.int .i64 at_] 3 (0, 0)) Bha.out hb); have cha_0 : wb.cell? ⟨g2, 0, none⟩ = some (.int .i64 at_) := (blk_cell n_ha.out 0).trans rfl; clear hb hbox hg))
    go_ret
    exact ⟨by first | rfl | (simp [*]; done), by repeat (first | (with_reducible first | exact HB.out | apply below_alloc | apply pw_below_drewN | apply below_drew1) | exact HB.out)⟩
def history_Size_c1.l0 (kd at_ : Int) : Nat → List S54 → Int → Int → Option Int
 | 0, _, _, _ => none
 | k + 1, l, i, n => if i < (l.length : Int) then (if 0 ≤ i then (if history_Size11.f (rd_T54 l i) kd at_ = true then history_Size_c1.l0 kd at_ k l (wrap64 (i + 1)) (wrap64 (n + 1)) else history_Size_c1.l0 kd at_ k l (wrap64 (i + 1)) n) else none) else some n
set_option maxHeartbeats 8000000 in
set_option maxRecDepth 100000 in
theorem history_Size_c1.calls (k : Nat) (kd at_ : Int)  (A0 : Option Addr) (c0 : Nat) (l0 : List S54) (r : Int) (g1 g2 : Nat) (W : World) (hr0 : Kd.C k54 W A0 l0.length l0) (hk : W.heap[g1]? = some (.cells #[.int .i64 kd] 3 (0, 0))) (ha : W.heap[g2]? = some (.cells #[.int .i64 at_] 3 (0, 0))) (h : history_Size_c1.l0 kd at_ k l0 0 0 = some r) :
    Calls Try.prog 25 #[.slice A0 l0.length c0, .func (.func 26) #[] #[.pointer (some ⟨g1, 0, none⟩), .pointer (some ⟨g2, 0, none⟩)]] W fun e w' => e = .returned (.int .i64 r) ∧ Below W.heap.size W w' := by
  have HR0 := Aside0.mk hr0
  have Bhk := Aside0.mk hk
  have Bha := Aside0.mk ha
  have H' := Aside0.mk h
  have HB := Aside0.mk (Below.refl W.heap.size W)
  clear hr0 h hk ha
  go_enter Try.func25, Try.ntmps25
  go_wp2
  go_loopg [5, 10] k (fun kq v5 v10 w' => ∃ (n i : Int), v5 = .int .i64 n ∧ v10 = .int .i64 i ∧ Aside0 (history_Size_c1.l0 kd at_ kq l0 i n = some r) ∧ Aside0 (kq ≤ k) ∧ Aside0 (Below W.heap.size W w'))
  case atStart => exact ⟨0, 0, by rfl, by rfl, H', ⟨Nat.le_refl _⟩, ⟨by repeat (first | (with_reducible first | exact HB.out | apply below_alloc | apply pw_below_drewN | apply below_drew1) | exact HB.out)⟩⟩
  case round =>
    clear H'
    clear HB
    try clear p2
    obtain ⟨n, i, rfl, rfl, HA, HK1, HB⟩ := hrel
    cases gk with
    | zero => exact absurd HA.out (by simp [history_Size_c1.l0])
    | succ k1 =>
      have H := HA.out
      clear HA
      simp only [history_Size_c1.l0] at H
      by_cases c4 : i < (l0.length : Int)
      · rw [if_pos c4] at H
        have c4b0 : decide (i < (l0.length : Int)) = true := decide_eq_true c4
        by_cases c5 : 0 ≤ i
        · rw [if_pos c5] at H
          have c5b0 : decide (0 ≤ i) = true := decide_eq_true c5
          obtain ⟨ad, A12, c12, e12, hx0, hx1, hx2, hx3, hx4, hx5, hx6, hx7, hx8, hx9, hx10, hx11, hx12, hl12, hi12⟩ := at_T54 (hsz_up HR0.out HB.out) i c5 c4
          cases e12
          have HI := Aside0.mk hi12
          have HL := Aside0.mk hl12
          clear hi12 hl12
          by_cases c6 : history_Size11.f (rd_T54 l0 i) kd at_ = true
          · rw [if_pos c6] at H
            have c6b0 : history_Size11.f (rd_T54 l0 i) kd at_ = true := c6
            have H' := Aside0.mk H
            clear H
            go_wp2_with (first | (go_at_call 26; (with_reducible refine (history_Size11.calls (rd_T54 l0 i) A12 c12 kd at_ g1 g2 _ (blk_alloc (blk_below Bhk.out HB.out) _) (blk_alloc (blk_below Bha.out HB.out) _)).mono ?_); rintro e w1 ⟨rfl, hb⟩; have n0_ := Aside0.mk (below_step (below_alloc HB.out _) hb); clear HB hb; have HB := n0_; clear n0_))
            go_roundg k1
            case measure => have := HK1.out; omega
            case rel => exact ⟨wrap64 (n + 1), wrap64 (i + 1), (by first | rfl | (simp; done) | (simp [*]; done)), (by first | rfl | (simp; done) | (simp [*]; done)), H', ⟨by have := HK1.out; omega⟩, ⟨by repeat (first | (with_reducible first | exact HB.out | apply below_alloc | apply pw_below_drewN | apply below_drew1) | exact HB.out)⟩⟩
          · rw [if_neg c6] at H
            have c6b0 : history_Size11.f (rd_T54 l0 i) kd at_ = false := Bool.eq_false_iff.mpr c6
            have H' := Aside0.mk H
            clear H
            go_wp2_with (first | (go_at_call 26; (with_reducible refine (history_Size11.calls (rd_T54 l0 i) A12 c12 kd at_ g1 g2 _ (blk_alloc (blk_below Bhk.out HB.out) _) (blk_alloc (blk_below Bha.out HB.out) _)).mono ?_); rintro e w1 ⟨rfl, hb⟩; have n0_ := Aside0.mk (below_step (below_alloc HB.out _) hb); clear HB hb; have HB := n0_; clear n0_))
            go_roundg k1
            case measure => have := HK1.out; omega
            case rel => exact ⟨n, wrap64 (i + 1), (by first | rfl | (simp; done) | (simp [*]; done)), (by first | rfl | (simp; done) | (simp [*]; done)), H', ⟨by have := HK1.out; omega⟩, ⟨by repeat (first | (with_reducible first | exact HB.out | apply below_alloc | apply pw_below_drewN | apply below_drew1) | exact HB.out)⟩⟩
        · rw [if_neg c5] at H
          exact absurd H (by simp)
      · rw [if_neg c4] at H
        have c4b0 : decide (i < (l0.length : Int)) = false := decide_eq_false c4
        clear c4
        obtain rfl := Option.some.inj H
        clear H
        go_wp2
        go_ret
        exact ⟨by first | rfl | (simp [*]; done), by repeat (first | (with_reducible first | exact HB.out | apply below_alloc | apply pw_below_drewN | apply below_drew1) | exact HB.out)⟩
def history_Size_c2.l0 (at_ : Int) : Nat → List S54 → Int → Int → Option Int
 | 0, _, _, _ => none
 | k + 1, l, i, n => if i < (l.length : Int) then (if 0 ≤ i then (if history_Size2.f (rd_T54 l i) at_ = true then history_Size_c2.l0 at_ k l (wrap64 (i + 1)) (wrap64 (n + 1)) else history_Size_c2.l0 at_ k l (wrap64 (i + 1)) n) else none) else some n
set_option maxHeartbeats 8000000 in
set_option maxRecDepth 100000 in
theorem history_Size_c2.calls (k : Nat) (at_ : Int)  (A0 : Option Addr) (c0 : Nat) (l0 : List S54) (r : Int) (g2 : Nat) (W : World) (hr0 : Kd.C k54 W A0 l0.length l0) (ha : W.heap[g2]? = some (.cells #[.int .i64 at_] 3 (0, 0))) (h : history_Size_c2.l0 at_ k l0 0 0 = some r) :
    Calls Try.prog 25 #[.slice A0 l0.length c0, .func (.func 27) #[] #[.pointer (some ⟨g2, 0, none⟩)]] W fun e w' => e = .returned (.int .i64 r) ∧ Below W.heap.size W w' := by
  have HR0 := Aside0.mk hr0
  have Bha := Aside0.mk ha
  have H' := Aside0.mk h
  have HB := Aside0.mk (Below.refl W.heap.size W)
  clear hr0 h ha
  go_enter Try.func25, Try.ntmps25
  go_wp2
  go_loopg [5, 10] k (fun kq v5 v10 w' => ∃ (n i : Int), v5 = .int .i64 n ∧ v10 = .int .i64 i ∧ Aside0 (history_Size_c2.l0 at_ kq l0 i n = some r) ∧ Aside0 (kq ≤ k) ∧ Aside0 (Below W.heap.size W w'))
  case atStart => exact ⟨0, 0, by rfl, by rfl, H', ⟨Nat.le_refl _⟩, ⟨by repeat (first | (with_reducible first | exact HB.out | apply below_alloc | apply pw_below_drewN | apply below_drew1) | exact HB.out)⟩⟩
  case round =>
    clear H'
    clear HB
    try clear p2
    obtain ⟨n, i, rfl, rfl, HA, HK1, HB⟩ := hrel
    cases gk with
    | zero => exact absurd HA.out (by simp [history_Size_c2.l0])
    | succ k1 =>
      have H := HA.out
      clear HA
      simp only [history_Size_c2.l0] at H
      by_cases c4 : i < (l0.length : Int)
      · rw [if_pos c4] at H
        have c4b0 : decide (i < (l0.length : Int)) = true := decide_eq_true c4
        by_cases c5 : 0 ≤ i
        · rw [if_pos c5] at H
          have c5b0 : decide (0 ≤ i) = true := decide_eq_true c5
          obtain ⟨ad, A12, c12, e12, hx0, hx1, hx2, hx3, hx4, hx5, hx6, hx7, hx8, hx9, hx10, hx11, hx12, hl12, hi12⟩ := at_T54 (hsz_up HR0.out HB.out) i c5 c4
          cases e12
          have HI := Aside0.mk hi12
          have HL := Aside0.mk hl12
          clear hi12 hl12
          by_cases c6 : history_Size2.f (rd_T54 l0 i) at_ = true
          · rw [if_pos c6] at H
            have c6b0 : history_Size2.f (rd_T54 l0 i) at_ = true := c6
            have H' := Aside0.mk H
            clear H
            go_wp2_with (first | (go_at_call 27; (with_reducible refine (history_Size2.calls (rd_T54 l0 i) A12 c12 at_ g2 _ (blk_alloc (blk_below Bha.out HB.out) _)).mono ?_); rintro e w1 ⟨rfl, hb⟩; have n0_ := Aside0.mk (below_step (below_alloc HB.out _) hb); clear HB hb; have HB := n0_; clear n0_))
            go_roundg k1
            case measure => have := HK1.out; omega
            case rel => exact ⟨wrap64 (n + 1), wrap64 (i + 1), (by first | rfl | (simp; done) | (simp [*]; done)), (by first | rfl | (simp; done) | (simp [*]; done)), H', ⟨by have := HK1.out; omega⟩, ⟨by repeat (first | (with_reducible first | exact HB.out | apply below_alloc | apply pw_below_drewN | apply below_drew1) | exact HB.out)⟩⟩
          · rw [if_neg c6] at H
            have c6b0 : history_Size2.f (rd_T54 l0 i) at_ = false := Bool.eq_false_iff.mpr c6
            have H' := Aside0.mk H
            clear H
            go_wp2_with (first | (go_at_call 27; (with_reducible refine (history_Size2.calls (rd_T54 l0 i) A12 c12 at_ g2 _ (blk_alloc (blk_below Bha.out HB.out) _)).mono ?_); rintro e w1 ⟨rfl, hb⟩; have n0_ := Aside0.mk (below_step (below_alloc HB.out _) hb); clear HB hb; have HB := n0_; clear n0_))
            go_roundg k1
            case measure => have := HK1.out; omega
            case rel => exact ⟨n, wrap64 (i + 1), (by first | rfl | (simp; done) | (simp [*]; done)), (by first | rfl | (simp; done) | (simp [*]; done)), H', ⟨by have := HK1.out; omega⟩, ⟨by repeat (first | (with_reducible first | exact HB.out | apply below_alloc | apply pw_below_drewN | apply below_drew1) | exact HB.out)⟩⟩
        · rw [if_neg c5] at H
          exact absurd H (by simp)
      · rw [if_neg c4] at H
        have c4b0 : decide (i < (l0.length : Int)) = false := decide_eq_false c4
        clear c4
        obtain rfl := Option.some.inj H
        clear H
        go_wp2
        go_ret
        exact ⟨by first | rfl | (simp [*]; done), by repeat (first | (with_reducible first | exact HB.out | apply below_alloc | apply pw_below_drewN | apply below_drew1) | exact HB.out)⟩
set_option maxHeartbeats 8000000 in
set_option maxRecDepth 100000 in
theorem history_Size1.calls (k : Nat) (kd at_ : Int) (A0 : Option Addr) (c0 : Nat) (l0 : List S54) (r : Int) (gh ga : Nat) (W : World) (hr0 : Kd.C k54 W A0 l0.length l0) (hh : W.heap[gh]? = some (.cells #[.slice A0 l0.length c0] 39 (0, 0))) (ha : W.heap[ga]? = some (.cells #[.int .i64 at_] 3 (0, 0))) (h : history_Size_c1.l0 kd at_ k l0 0 0 = some r) :
    Calls Try.prog 24 #[.int .i64 kd, .pointer (some ⟨gh, 0, none⟩), .pointer (some ⟨ga, 0, none⟩)] W fun e w' => e = .returned (.int .i64 r) ∧ Below W.heap.size W w' := by
  have hmf : ∀ (fn : Fn) (first cap : Array Value) (w : World), (Instr.makeFunc fn first cap).run Try.prog w = .ok (.func fn first cap) w := fun _ _ _ _ => rfl
  have HR0 := Aside0.mk hr0
  have BKh := Aside0.mk hh
  have BKa := Aside0.mk ha
  have H' := Aside0.mk h
  have HB := Aside0.mk (Below.refl W.heap.size W)
  clear hr0 hh ha h
  go_enter Try.func24, Try.ntmps24
  go_wp2_with (first | ((with_reducible refine gate_dst (N := 3) rfl ?_); refine box_event ?hg (N := 3) ?hd (cs := #[.int .i64 kd]) (t := 3) ?hr ?_; (case hd => rfl); (case hg => rfl); (case hr => first | (go_simp; done) | (go_simp; rfl)); intro gk hg wb_gk hbox hb; have BKgk := Aside0.mk hbox; have n_BKh := Aside0.mk (blk_below (g := gh) (o := .cells #[.slice A0 l0.length c0] 39 (0, 0)) BKh.out hb); clear BKh; have BKh := n_BKh; clear n_BKh; have n_BKa := Aside0.mk (blk_below (g := ga) (o := .cells #[.int .i64 at_] 3 (0, 0)) BKa.out hb); clear BKa; have BKa := n_BKa; clear n_BKa; have n0_ := Aside0.mk (below_step HB.out hb); clear HB; have HB := n0_; clear n0_; have cgk_0 : wb_gk.cell? ⟨gk, 0, none⟩ = some (.int .i64 kd) := (blk_cell BKgk.out 0).trans rfl; have cgh_0 : wb_gk.cell? ⟨gh, 0, none⟩ = some (.slice A0 l0.length c0) := (blk_cell BKh.out 0).trans rfl; clear hb hbox hg) | (go_at_call 25; (with_reducible refine (history_Size_c1.calls k kd at_ A0 c0 l0 r gk ga _ (hsz_up HR0.out HB.out) BKgk.out BKa.out H'.out).mono ?_); rintro e w1 ⟨rfl, hb⟩; have n0_ := Aside0.mk (below_step HB.out hb); clear HB hb; have HB := n0_; clear n0_))
  go_ret
  exact ⟨rfl, by repeat (first | (with_reducible first | exact HB.out | apply below_alloc | apply pw_below_drewN | apply below_drew1) | exact HB.out)⟩
def history_Size.f (k : Nat) (l0 : List S54) (a1 : Int) : Option Int := (history_Size_c2.l0 a1 k l0 0 0).bind fun p => (history_Size_c1.l0 1 a1 k l0 0 0).bind fun a => (history_Size_c1.l0 2 a1 k l0 0 0).bind fun b => some (wrap64 (wrap64 (a - b) + p))
set_option maxHeartbeats 8000000 in
set_option maxRecDepth 100000 in
theorem history_Size.calls (k : Nat) (A0 : Option Addr) (c0 : Nat) (l0 : List S54) (a1 : Int) (r : Int) (w : World) (hr0 : Kd.C k54 w A0 l0.length l0) (hc0 : l0.length ≤ c0) (h : history_Size.f k l0 a1 = some r) :
    Calls Try.prog 16 #[.slice A0 l0.length c0, .int .i64 a1] w fun e w' => e = .returned (.int .i64 r) ∧ Below w.heap.size w w' := by
  have hmf : ∀ (fn : Fn) (first cap : Array Value) (w : World), (Instr.makeFunc fn first cap).run Try.prog w = .ok (.func fn first cap) w := fun _ _ _ _ => rfl
  have HR0 := Aside0.mk hr0
  obtain ⟨p, hp, h⟩ := Option.bind_eq_some_iff.mp h
  obtain ⟨a, ha, h⟩ := Option.bind_eq_some_iff.mp h
  obtain ⟨b, hb, h⟩ := Option.bind_eq_some_iff.mp h
  have Hp := Aside0.mk hp
  have Ha := Aside0.mk ha
  have Hb := Aside0.mk hb
  obtain rfl := Option.some.inj h
  have HB := Aside0.mk (Below.refl w.heap.size w)
  clear hr0 hp ha hb h
  go_enter Try.func16, Try.ntmps16
  go_wp2_with (first | ((with_reducible refine gate_dst (N := 2) rfl ?_); refine box_event ?hg (N := 2) ?hd (cs := #[.slice A0 l0.length c0]) (t := 39) ?hr ?_; (case hd => rfl); (case hg => rfl); (case hr => first | (go_simp; done) | (go_simp; rfl)); intro gh hg wb_gh hbox hb; have BKgh := Aside0.mk hbox; have n0_ := Aside0.mk (below_step HB.out hb); clear HB; have HB := n0_; clear n0_; have cgh_0 : wb_gh.cell? ⟨gh, 0, none⟩ = some (.slice A0 l0.length c0) := (blk_cell BKgh.out 0).trans rfl; clear hb hbox hg) | ((with_reducible refine gate_dst (N := 3) rfl ?_); refine box_event ?hg (N := 3) ?hd (cs := #[.int .i64 a1]) (t := 3) ?hr ?_; (case hd => rfl); (case hg => rfl); (case hr => first | (go_simp; done) | (go_simp; rfl)); intro ga hg wb_ga hbox hb; have BKga := Aside0.mk hbox; have n_BKgh := Aside0.mk (blk_below (g := gh) (o := .cells #[.slice A0 l0.length c0] 39 (0, 0)) BKgh.out hb); clear BKgh; have BKgh := n_BKgh; clear n_BKgh; have n0_ := Aside0.mk (below_step HB.out hb); clear HB; have HB := n0_; clear n0_; have cgh_1 : wb_ga.cell? ⟨gh, 0, none⟩ = some (.slice A0 l0.length c0) := (blk_cell BKgh.out 0).trans rfl; clear hb hbox hg) | (go_at_call 25; (with_reducible refine (history_Size_c2.calls k a1 A0 c0 l0 p ga _ (hsz_up HR0.out HB.out) BKga.out Hp.out).mono ?_); rintro e w1 ⟨rfl, hb⟩; have n_BKgh := Aside0.mk (blk_below (g := gh) (o := .cells #[.slice A0 l0.length c0] 39 (0, 0)) BKgh.out hb); clear BKgh; have BKgh := n_BKgh; clear n_BKgh; have n_BKga := Aside0.mk (blk_below (g := ga) (o := .cells #[.int .i64 a1] 3 (0, 0)) BKga.out hb); clear BKga; have BKga := n_BKga; clear n_BKga; have n0_ := Aside0.mk (below_step HB.out hb); clear HB hb; have HB := n0_; clear n0_; have c1gh : w1.cell? ⟨gh, 0, none⟩ = some (.slice A0 l0.length c0) := (blk_cell BKgh.out 0).trans rfl; have c1ga : w1.cell? ⟨ga, 0, none⟩ = some (.int .i64 a1) := (blk_cell BKga.out 0).trans rfl) | (go_at_call 24; (with_reducible refine (history_Size1.calls k 1 a1 A0 c0 l0 a gh ga _ (hsz_up HR0.out HB.out) BKgh.out BKga.out Ha.out).mono ?_); rintro e w2 ⟨rfl, hb⟩; have n_BKgh := Aside0.mk (blk_below (g := gh) (o := .cells #[.slice A0 l0.length c0] 39 (0, 0)) BKgh.out hb); clear BKgh; have BKgh := n_BKgh; clear n_BKgh; have n_BKga := Aside0.mk (blk_below (g := ga) (o := .cells #[.int .i64 a1] 3 (0, 0)) BKga.out hb); clear BKga; have BKga := n_BKga; clear n_BKga; have n0_ := Aside0.mk (below_step HB.out hb); clear HB hb; have HB := n0_; clear n0_; have c2gh : w2.cell? ⟨gh, 0, none⟩ = some (.slice A0 l0.length c0) := (blk_cell BKgh.out 0).trans rfl; have c2ga : w2.cell? ⟨ga, 0, none⟩ = some (.int .i64 a1) := (blk_cell BKga.out 0).trans rfl) | (go_at_call 24; (with_reducible refine (history_Size1.calls k 2 a1 A0 c0 l0 b gh ga _ (hsz_up HR0.out HB.out) BKgh.out BKga.out Hb.out).mono ?_); rintro e w3 ⟨rfl, hb⟩; have n_BKgh := Aside0.mk (blk_below (g := gh) (o := .cells #[.slice A0 l0.length c0] 39 (0, 0)) BKgh.out hb); clear BKgh; have BKgh := n_BKgh; clear n_BKgh; have n_BKga := Aside0.mk (blk_below (g := ga) (o := .cells #[.int .i64 a1] 3 (0, 0)) BKga.out hb); clear BKga; have BKga := n_BKga; clear n_BKga; have n0_ := Aside0.mk (below_step HB.out hb); clear HB hb; have HB := n0_; clear n0_; have c3gh : w3.cell? ⟨gh, 0, none⟩ = some (.slice A0 l0.length c0) := (blk_cell BKgh.out 0).trans rfl; have c3ga : w3.cell? ⟨ga, 0, none⟩ = some (.int .i64 a1) := (blk_cell BKga.out 0).trans rfl))
  go_ret
  exact ⟨by first | rfl | (simp; done), by repeat (first | (with_reducible first | exact HB.out | apply below_alloc | apply pw_below_drewN | apply below_drew1) | exact HB.out)⟩
theorem hin_heap : Kd.Heap k54 := by
 unfold k54
 refine Kd.heap_iso _ (Kd.heap_pair (Kd.heap_int _) (Kd.heap_pair (Kd.heap_int _) (Kd.heap_pair (Kd.heap_int _) (Kd.heap_pair (Kd.heap_int _) (Kd.heap_pair (Kd.heap_int _) (Kd.heap_pair ?_ ?_))))))
 ·exact Kd.heap_iso _ (Kd.heap_pair (Kd.heap_int _) (Kd.heap_pair (Kd.heap_int _) (Kd.heap_pair (Kd.heap_int _) (Kd.heap_int _))))
 ·exact Kd.heap_iso _ (Kd.heap_pair (Kd.heap_int _) (Kd.heap_pair Kd.heap_bool (Kd.heap_pair (Kd.heap_int _) (Kd.heap_slice _ (Kd.heap_iso _ (Kd.heap_pair (Kd.heap_int _) (Kd.heap_int _)))))))
theorem hin_up {w w1 : World} {A : Option Addr} {n : Nat} {xs : List S54} (h : Kd.C k54 w A n xs) (hb : Below w.heap.size w w1) : Kd.C k54 w1 A n xs := hin_heap.C (fun k hk => hb.block k hk) h
def hin_Bf.f (a b : S54) : Bool := if a.f3 ≥ 0 then decide (a.f3 < b.f2) else false
set_option maxHeartbeats 8000000 in
set_option maxRecDepth 100000 in
theorem hin_Bf.calls (a b : S54) (A B : Option Addr) (c d : Nat) (W : World) : Calls Try.prog 29 #[.agg #[.int .i64 a.f0, .int .i64 a.f1, .int .i64 a.f2, .int .i64 a.f3, .int .i64 a.f4, .int .i64 a.f5.f0, .int .u64 a.f5.f1, .int .u64 a.f5.f2, .int .i64 a.f5.f3, .int .i64 a.f6.f0, .bool a.f6.f1, .int .u64 a.f6.f2, .slice A a.f6.f3.length c], .agg #[.int .i64 b.f0, .int .i64 b.f1, .int .i64 b.f2, .int .i64 b.f3, .int .i64 b.f4, .int .i64 b.f5.f0, .int .u64 b.f5.f1, .int .u64 b.f5.f2, .int .i64 b.f5.f3, .int .i64 b.f6.f0, .bool b.f6.f1, .int .u64 b.f6.f2, .slice B b.f6.f3.length d]] W fun e w' => e = .returned (.bool (hin_Bf.f a b)) ∧ Below W.heap.size W w' := by
 have HB := Aside0.mk (Below.refl W.heap.size W)
 unfold hin_Bf.f
 by_cases c1 : a.f3 ≥ 0
 ·rw [if_pos c1]
  have c1b : decide (0 ≤ a.f3) = true := decide_eq_true c1
  go_enter Try.func29, Try.ntmps29
  go_wp2_with (first | ((with_reducible refine gate_dst (N := 2) rfl ?_); refine box_event ?hg (N := 2) ?hd (cs := #[.int .i64 a.f0, .int .i64 a.f1, .int .i64 a.f2, .int .i64 a.f3, .int .i64 a.f4, .int .i64 a.f5.f0, .int .u64 a.f5.f1, .int .u64 a.f5.f2, .int .i64 a.f5.f3, .int .i64 a.f6.f0, .bool a.f6.f1, .int .u64 a.f6.f2, .slice A a.f6.f3.length c]) (t := 54) ?hr ?_; (case hd => rfl); (case hg => rfl); (case hr => first | (go_simp; done) | (go_simp; rfl)); intro ga hg wb_ga hbox hb; have BKga := Aside0.mk hbox; have n0_ := Aside0.mk (below_step HB.out hb); clear HB; have HB := n0_; clear n0_; clear hb hbox hg) | ((with_reducible refine gate_dst (N := 3) rfl ?_); refine box_event ?hg (N := 3) ?hd (cs := #[.int .i64 b.f0, .int .i64 b.f1, .int .i64 b.f2, .int .i64 b.f3, .int .i64 b.f4, .int .i64 b.f5.f0, .int .u64 b.f5.f1, .int .u64 b.f5.f2, .int .i64 b.f5.f3, .int .i64 b.f6.f0, .bool b.f6.f1, .int .u64 b.f6.f2, .slice B b.f6.f3.length d]) (t := 54) ?hr ?_; (case hd => rfl); (case hg => rfl); (case hr => first | (go_simp; done) | (go_simp; rfl)); intro gb hg wb_gb hbox hb; have BKgb := Aside0.mk hbox; have n_BKga := Aside0.mk (blk_below (g := ga) (o := .cells #[.int .i64 a.f0, .int .i64 a.f1, .int .i64 a.f2, .int .i64 a.f3, .int .i64 a.f4, .int .i64 a.f5.f0, .int .u64 a.f5.f1, .int .u64 a.f5.f2, .int .i64 a.f5.f3, .int .i64 a.f6.f0, .bool a.f6.f1, .int .u64 a.f6.f2, .slice A a.f6.f3.length c] 54 (0, 0)) BKga.out hb); clear BKga; have BKga := n_BKga; clear n_BKga; have n0_ := Aside0.mk (below_step HB.out hb); clear HB; have HB := n0_; clear n0_; have cgb_2 : wb_gb.cell? ⟨gb, 2, none⟩ = some (.int .i64 b.f2) := (blk_cell BKgb.out 2).trans rfl; have cga_3 : wb_gb.cell? ⟨ga, 3, none⟩ = some (.int .i64 a.f3) := (blk_cell BKga.out 3).trans rfl; clear hb hbox hg))
  go_ret
  exact ⟨by first | rfl | (simp [*]; done), by repeat (first | (with_reducible first | exact HB.out | apply below_alloc | apply pw_below_drewN | apply below_drew1) | exact HB.out)⟩
 ·rw [if_neg c1]
  have c1b : decide (0 ≤ a.f3) = false := decide_eq_false c1
  go_enter Try.func29, Try.ntmps29
  go_wp2_with (first | ((with_reducible refine gate_dst (N := 2) rfl ?_); refine box_event ?hg (N := 2) ?hd (cs := #[.int .i64 a.f0, .int .i64 a.f1, .int .i64 a.f2, .int .i64 a.f3, .int .i64 a.f4, .int .i64 a.f5.f0, .int .u64 a.f5.f1, .int .u64 a.f5.f2, .int .i64 a.f5.f3, .int .i64 a.f6.f0, .bool a.f6.f1, .int .u64 a.f6.f2, .slice A a.f6.f3.length c]) (t := 54) ?hr ?_; (case hd => rfl); (case hg => rfl); (case hr => first | (go_simp; done) | (go_simp; rfl)); intro ga hg wb_ga hbox hb; have BKga := Aside0.mk hbox; have n0_ := Aside0.mk (below_step HB.out hb); clear HB; have HB := n0_; clear n0_; clear hb hbox hg) | ((with_reducible refine gate_dst (N := 3) rfl ?_); refine box_event ?hg (N := 3) ?hd (cs := #[.int .i64 b.f0, .int .i64 b.f1, .int .i64 b.f2, .int .i64 b.f3, .int .i64 b.f4, .int .i64 b.f5.f0, .int .u64 b.f5.f1, .int .u64 b.f5.f2, .int .i64 b.f5.f3, .int .i64 b.f6.f0, .bool b.f6.f1, .int .u64 b.f6.f2, .slice B b.f6.f3.length d]) (t := 54) ?hr ?_; (case hd => rfl); (case hg => rfl); (case hr => first | (go_simp; done) | (go_simp; rfl)); intro gb hg wb_gb hbox hb; have BKgb := Aside0.mk hbox; have n_BKga := Aside0.mk (blk_below (g := ga) (o := .cells #[.int .i64 a.f0, .int .i64 a.f1, .int .i64 a.f2, .int .i64 a.f3, .int .i64 a.f4, .int .i64 a.f5.f0, .int .u64 a.f5.f1, .int .u64 a.f5.f2, .int .i64 a.f5.f3, .int .i64 a.f6.f0, .bool a.f6.f1, .int .u64 a.f6.f2, .slice A a.f6.f3.length c] 54 (0, 0)) BKga.out hb); clear BKga; have BKga := n_BKga; clear n_BKga; have n0_ := Aside0.mk (below_step HB.out hb); clear HB; have HB := n0_; clear n0_; have cgb_2 : wb_gb.cell? ⟨gb, 2, none⟩ = some (.int .i64 b.f2) := (blk_cell BKgb.out 2).trans rfl; have cga_3 : wb_gb.cell? ⟨ga, 3, none⟩ = some (.int .i64 a.f3) := (blk_cell BKga.out 3).trans rfl; clear hb hbox hg))
  go_ret
  exact ⟨by first | rfl | (simp [*]; done), by repeat (first | (with_reducible first | exact HB.out | apply below_alloc | apply pw_below_drewN | apply below_drew1) | exact HB.out)⟩
def history_Inserts1.f (x e : S54) : Bool := if x.f5.f0 = 1 then (if hin_Bf.f e x = true then false else !(hin_Bf.f x e)) else false
set_option maxHeartbeats 8000000 in
set_option maxRecDepth 100000 in
theorem history_Inserts1.calls (x e : S54) (A Ae : Option Addr) (c ce : Nat) (ge : Nat) (W : World) (hg : W.heap[ge]? = some (.cells #[.int .i64 e.f0, .int .i64 e.f1, .int .i64 e.f2, .int .i64 e.f3, .int .i64 e.f4, .int .i64 e.f5.f0, .int .u64 e.f5.f1, .int .u64 e.f5.f2, .int .i64 e.f5.f3, .int .i64 e.f6.f0, .bool e.f6.f1, .int .u64 e.f6.f2, .slice Ae e.f6.f3.length ce] 54 (0, 0))) :
    Calls Try.prog 28 #[.agg #[.int .i64 x.f0, .int .i64 x.f1, .int .i64 x.f2, .int .i64 x.f3, .int .i64 x.f4, .int .i64 x.f5.f0, .int .u64 x.f5.f1, .int .u64 x.f5.f2, .int .i64 x.f5.f3, .int .i64 x.f6.f0, .bool x.f6.f1, .int .u64 x.f6.f2, .slice A x.f6.f3.length c], .pointer (some ⟨ge, 0, none⟩)] W fun e_ w' => e_ = .returned (.bool (history_Inserts1.f x e)) ∧ Below W.heap.size W w' := by
  have BKge := Aside0.mk hg
  have HB := Aside0.mk (Below.refl W.heap.size W)
  clear hg
  unfold history_Inserts1.f
  by_cases c1 : x.f5.f0 = 1
  · rw [if_pos c1]
    have c1b : (x.f5.f0 == 1) = true := beq_iff_eq.mpr c1
    clear c1
    by_cases c2 : hin_Bf.f e x = true
    · rw [if_pos c2]
      go_enter Try.func28, Try.ntmps28
      go_wp2_with (first | ((with_reducible refine gate_dst (N := 2) rfl ?_); refine box_event ?hg (N := 2) ?hd (cs := #[.int .i64 x.f0, .int .i64 x.f1, .int .i64 x.f2, .int .i64 x.f3, .int .i64 x.f4, .int .i64 x.f5.f0, .int .u64 x.f5.f1, .int .u64 x.f5.f2, .int .i64 x.f5.f3, .int .i64 x.f6.f0, .bool x.f6.f1, .int .u64 x.f6.f2, .slice A x.f6.f3.length c]) (t := 54) ?hr ?_; (case hd => rfl); (case hg => rfl); (case hr => first | (go_simp; done) | (go_simp; rfl)); intro gx hg wb_gx hbox hb; have BKgx := Aside0.mk hbox; have n_BKge := Aside0.mk (blk_below (g := ge) (o := .cells #[.int .i64 e.f0, .int .i64 e.f1, .int .i64 e.f2, .int .i64 e.f3, .int .i64 e.f4, .int .i64 e.f5.f0, .int .u64 e.f5.f1, .int .u64 e.f5.f2, .int .i64 e.f5.f3, .int .i64 e.f6.f0, .bool e.f6.f1, .int .u64 e.f6.f2, .slice Ae e.f6.f3.length ce] 54 (0, 0)) BKge.out hb); clear BKge; have BKge := n_BKge; clear n_BKge; have n0_ := Aside0.mk (below_step HB.out hb); clear HB; have HB := n0_; clear n0_; have c0gx_0 : wb_gx.cell? ⟨gx, 0, none⟩ = some (.int .i64 x.f0) := (blk_cell BKgx.out 0).trans rfl; have c0gx_1 : wb_gx.cell? ⟨gx, 1, none⟩ = some (.int .i64 x.f1) := (blk_cell BKgx.out 1).trans rfl; have c0gx_2 : wb_gx.cell? ⟨gx, 2, none⟩ = some (.int .i64 x.f2) := (blk_cell BKgx.out 2).trans rfl; have c0gx_3 : wb_gx.cell? ⟨gx, 3, none⟩ = some (.int .i64 x.f3) := (blk_cell BKgx.out 3).trans rfl; have c0gx_4 : wb_gx.cell? ⟨gx, 4, none⟩ = some (.int .i64 x.f4) := (blk_cell BKgx.out 4).trans rfl; have c0gx_5 : wb_gx.cell? ⟨gx, 5, none⟩ = some (.int .i64 x.f5.f0) := (blk_cell BKgx.out 5).trans rfl; have c0gx_6 : wb_gx.cell? ⟨gx, 6, none⟩ = some (.int .u64 x.f5.f1) := (blk_cell BKgx.out 6).trans rfl; have c0gx_7 : wb_gx.cell? ⟨gx, 7, none⟩ = some (.int .u64 x.f5.f2) := (blk_cell BKgx.out 7).trans rfl; have c0gx_8 : wb_gx.cell? ⟨gx, 8, none⟩ = some (.int .i64 x.f5.f3) := (blk_cell BKgx.out 8).trans rfl; have c0gx_9 : wb_gx.cell? ⟨gx, 9, none⟩ = some (.int .i64 x.f6.f0) := (blk_cell BKgx.out 9).trans rfl; have c0gx_10 : wb_gx.cell? ⟨gx, 10, none⟩ = some (.bool x.f6.f1) := (blk_cell BKgx.out 10).trans rfl; have c0gx_11 : wb_gx.cell? ⟨gx, 11, none⟩ = some (.int .u64 x.f6.f2) := (blk_cell BKgx.out 11).trans rfl; have c0gx_12 : wb_gx.cell? ⟨gx, 12, none⟩ = some (.slice A x.f6.f3.length c) := (blk_cell BKgx.out 12).trans rfl; have c0ge_0 : wb_gx.cell? ⟨ge, 0, none⟩ = some (.int .i64 e.f0) := (blk_cell BKge.out 0).trans rfl; have c0ge_1 : wb_gx.cell? ⟨ge, 1, none⟩ = some (.int .i64 e.f1) := (blk_cell BKge.out 1).trans rfl; have c0ge_2 : wb_gx.cell? ⟨ge, 2, none⟩ = some (.int .i64 e.f2) := (blk_cell BKge.out 2).trans rfl; have c0ge_3 : wb_gx.cell? ⟨ge, 3, none⟩ = some (.int .i64 e.f3) := (blk_cell BKge.out 3).trans rfl; have c0ge_4 : wb_gx.cell? ⟨ge, 4, none⟩ = some (.int .i64 e.f4) := (blk_cell BKge.out 4).trans rfl; have c0ge_5 : wb_gx.cell? ⟨ge, 5, none⟩ = some (.int .i64 e.f5.f0) := (blk_cell BKge.out 5).trans rfl; have c0ge_6 : wb_gx.cell? ⟨ge, 6, none⟩ = some (.int .u64 e.f5.f1) := (blk_cell BKge.out 6).trans rfl; have c0ge_7 : wb_gx.cell? ⟨ge, 7, none⟩ = some (.int .u64 e.f5.f2) := (blk_cell BKge.out 7).trans rfl; have c0ge_8 : wb_gx.cell? ⟨ge, 8, none⟩ = some (.int .i64 e.f5.f3) := (blk_cell BKge.out 8).trans rfl; have c0ge_9 : wb_gx.cell? ⟨ge, 9, none⟩ = some (.int .i64 e.f6.f0) := (blk_cell BKge.out 9).trans rfl; have c0ge_10 : wb_gx.cell? ⟨ge, 10, none⟩ = some (.bool e.f6.f1) := (blk_cell BKge.out 10).trans rfl; have c0ge_11 : wb_gx.cell? ⟨ge, 11, none⟩ = some (.int .u64 e.f6.f2) := (blk_cell BKge.out 11).trans rfl; have c0ge_12 : wb_gx.cell? ⟨ge, 12, none⟩ = some (.slice Ae e.f6.f3.length ce) := (blk_cell BKge.out 12).trans rfl; clear hb hbox hg) | (go_at_call 29; (with_reducible refine (hin_Bf.calls e x Ae A ce c _).mono ?_); rintro e w2 ⟨rfl, hb⟩; have n_BKgx := Aside0.mk (blk_below (g := gx) (o := .cells #[.int .i64 x.f0, .int .i64 x.f1, .int .i64 x.f2, .int .i64 x.f3, .int .i64 x.f4, .int .i64 x.f5.f0, .int .u64 x.f5.f1, .int .u64 x.f5.f2, .int .i64 x.f5.f3, .int .i64 x.f6.f0, .bool x.f6.f1, .int .u64 x.f6.f2, .slice A x.f6.f3.length c] 54 (0, 0)) BKgx.out hb); clear BKgx; have BKgx := n_BKgx; clear n_BKgx; have n_BKge := Aside0.mk (blk_below (g := ge) (o := .cells #[.int .i64 e.f0, .int .i64 e.f1, .int .i64 e.f2, .int .i64 e.f3, .int .i64 e.f4, .int .i64 e.f5.f0, .int .u64 e.f5.f1, .int .u64 e.f5.f2, .int .i64 e.f5.f3, .int .i64 e.f6.f0, .bool e.f6.f1, .int .u64 e.f6.f2, .slice Ae e.f6.f3.length ce] 54 (0, 0)) BKge.out hb); clear BKge; have BKge := n_BKge; clear n_BKge; have n0_ := Aside0.mk (below_step HB.out hb); clear HB hb; have HB := n0_; clear n0_; have cw2gx_0 : w2.cell? ⟨gx, 0, none⟩ = some (.int .i64 x.f0) := (blk_cell BKgx.out 0).trans rfl; have cw2gx_1 : w2.cell? ⟨gx, 1, none⟩ = some (.int .i64 x.f1) := (blk_cell BKgx.out 1).trans rfl; have cw2gx_2 : w2.cell? ⟨gx, 2, none⟩ = some (.int .i64 x.f2) := (blk_cell BKgx.out 2).trans rfl; have cw2gx_3 : w2.cell? ⟨gx, 3, none⟩ = some (.int .i64 x.f3) := (blk_cell BKgx.out 3).trans rfl; have cw2gx_4 : w2.cell? ⟨gx, 4, none⟩ = some (.int .i64 x.f4) := (blk_cell BKgx.out 4).trans rfl; have cw2gx_5 : w2.cell? ⟨gx, 5, none⟩ = some (.int .i64 x.f5.f0) := (blk_cell BKgx.out 5).trans rfl; have cw2gx_6 : w2.cell? ⟨gx, 6, none⟩ = some (.int .u64 x.f5.f1) := (blk_cell BKgx.out 6).trans rfl; have cw2gx_7 : w2.cell? ⟨gx, 7, none⟩ = some (.int .u64 x.f5.f2) := (blk_cell BKgx.out 7).trans rfl; have cw2gx_8 : w2.cell? ⟨gx, 8, none⟩ = some (.int .i64 x.f5.f3) := (blk_cell BKgx.out 8).trans rfl; have cw2gx_9 : w2.cell? ⟨gx, 9, none⟩ = some (.int .i64 x.f6.f0) := (blk_cell BKgx.out 9).trans rfl; have cw2gx_10 : w2.cell? ⟨gx, 10, none⟩ = some (.bool x.f6.f1) := (blk_cell BKgx.out 10).trans rfl; have cw2gx_11 : w2.cell? ⟨gx, 11, none⟩ = some (.int .u64 x.f6.f2) := (blk_cell BKgx.out 11).trans rfl; have cw2gx_12 : w2.cell? ⟨gx, 12, none⟩ = some (.slice A x.f6.f3.length c) := (blk_cell BKgx.out 12).trans rfl; have cw2ge_0 : w2.cell? ⟨ge, 0, none⟩ = some (.int .i64 e.f0) := (blk_cell BKge.out 0).trans rfl; have cw2ge_1 : w2.cell? ⟨ge, 1, none⟩ = some (.int .i64 e.f1) := (blk_cell BKge.out 1).trans rfl; have cw2ge_2 : w2.cell? ⟨ge, 2, none⟩ = some (.int .i64 e.f2) := (blk_cell BKge.out 2).trans rfl; have cw2ge_3 : w2.cell? ⟨ge, 3, none⟩ = some (.int .i64 e.f3) := (blk_cell BKge.out 3).trans rfl; have cw2ge_4 : w2.cell? ⟨ge, 4, none⟩ = some (.int .i64 e.f4) := (blk_cell BKge.out 4).trans rfl; have cw2ge_5 : w2.cell? ⟨ge, 5, none⟩ = some (.int .i64 e.f5.f0) := (blk_cell BKge.out 5).trans rfl; have cw2ge_6 : w2.cell? ⟨ge, 6, none⟩ = some (.int .u64 e.f5.f1) := (blk_cell BKge.out 6).trans rfl; have cw2ge_7 : w2.cell? ⟨ge, 7, none⟩ = some (.int .u64 e.f5.f2) := (blk_cell BKge.out 7).trans rfl; have cw2ge_8 : w2.cell? ⟨ge, 8, none⟩ = some (.int .i64 e.f5.f3) := (blk_cell BKge.out 8).trans rfl; have cw2ge_9 : w2.cell? ⟨ge, 9, none⟩ = some (.int .i64 e.f6.f0) := (blk_cell BKge.out 9).trans rfl; have cw2ge_10 : w2.cell? ⟨ge, 10, none⟩ = some (.bool e.f6.f1) := (blk_cell BKge.out 10).trans rfl; have cw2ge_11 : w2.cell? ⟨ge, 11, none⟩ = some (.int .u64 e.f6.f2) := (blk_cell BKge.out 11).trans rfl; have cw2ge_12 : w2.cell? ⟨ge, 12, none⟩ = some (.slice Ae e.f6.f3.length ce) := (blk_cell BKge.out 12).trans rfl))
      go_ret
      exact ⟨by first | rfl | (simp [*]; done), by repeat (first | (with_reducible first | exact HB.out | apply below_alloc | apply pw_below_drewN | apply below_drew1) | exact HB.out)⟩
    · rw [if_neg c2]
      replace c2 := Bool.eq_false_iff.mpr c2
      go_enter Try.func28, Try.ntmps28
      go_wp2_with (first | ((with_reducible refine gate_dst (N := 2) rfl ?_); refine box_event ?hg (N := 2) ?hd (cs := #[.int .i64 x.f0, .int .i64 x.f1, .int .i64 x.f2, .int .i64 x.f3, .int .i64 x.f4, .int .i64 x.f5.f0, .int .u64 x.f5.f1, .int .u64 x.f5.f2, .int .i64 x.f5.f3, .int .i64 x.f6.f0, .bool x.f6.f1, .int .u64 x.f6.f2, .slice A x.f6.f3.length c]) (t := 54) ?hr ?_; (case hd => rfl); (case hg => rfl); (case hr => first | (go_simp; done) | (go_simp; rfl)); intro gx hg wb_gx hbox hb; have BKgx := Aside0.mk hbox; have n_BKge := Aside0.mk (blk_below (g := ge) (o := .cells #[.int .i64 e.f0, .int .i64 e.f1, .int .i64 e.f2, .int .i64 e.f3, .int .i64 e.f4, .int .i64 e.f5.f0, .int .u64 e.f5.f1, .int .u64 e.f5.f2, .int .i64 e.f5.f3, .int .i64 e.f6.f0, .bool e.f6.f1, .int .u64 e.f6.f2, .slice Ae e.f6.f3.length ce] 54 (0, 0)) BKge.out hb); clear BKge; have BKge := n_BKge; clear n_BKge; have n0_ := Aside0.mk (below_step HB.out hb); clear HB; have HB := n0_; clear n0_; have c0gx_0 : wb_gx.cell? ⟨gx, 0, none⟩ = some (.int .i64 x.f0) := (blk_cell BKgx.out 0).trans rfl; have c0gx_1 : wb_gx.cell? ⟨gx, 1, none⟩ = some (.int .i64 x.f1) := (blk_cell BKgx.out 1).trans rfl; have c0gx_2 : wb_gx.cell? ⟨gx, 2, none⟩ = some (.int .i64 x.f2) := (blk_cell BKgx.out 2).trans rfl; have c0gx_3 : wb_gx.cell? ⟨gx, 3, none⟩ = some (.int .i64 x.f3) := (blk_cell BKgx.out 3).trans rfl; have c0gx_4 : wb_gx.cell? ⟨gx, 4, none⟩ = some (.int .i64 x.f4) := (blk_cell BKgx.out 4).trans rfl; have c0gx_5 : wb_gx.cell? ⟨gx, 5, none⟩ = some (.int .i64 x.f5.f0) := (blk_cell BKgx.out 5).trans rfl; have c0gx_6 : wb_gx.cell? ⟨gx, 6, none⟩ = some (.int .u64 x.f5.f1) := (blk_cell BKgx.out 6).trans rfl; have c0gx_7 : wb_gx.cell? ⟨gx, 7, none⟩ = some (.int .u64 x.f5.f2) := (blk_cell BKgx.out 7).trans rfl; have c0gx_8 : wb_gx.cell? ⟨gx, 8, none⟩ = some (.int .i64 x.f5.f3) := (blk_cell BKgx.out 8).trans rfl; have c0gx_9 : wb_gx.cell? ⟨gx, 9, none⟩ = some (.int .i64 x.f6.f0) := (blk_cell BKgx.out 9).trans rfl; have c0gx_10 : wb_gx.cell? ⟨gx, 10, none⟩ = some (.bool x.f6.f1) := (blk_cell BKgx.out 10).trans rfl; have c0gx_11 : wb_gx.cell? ⟨gx, 11, none⟩ = some (.int .u64 x.f6.f2) := (blk_cell BKgx.out 11).trans rfl; have c0gx_12 : wb_gx.cell? ⟨gx, 12, none⟩ = some (.slice A x.f6.f3.length c) := (blk_cell BKgx.out 12).trans rfl; have c0ge_0 : wb_gx.cell? ⟨ge, 0, none⟩ = some (.int .i64 e.f0) := (blk_cell BKge.out 0).trans rfl; have c0ge_1 : wb_gx.cell? ⟨ge, 1, none⟩ = some (.int .i64 e.f1) := (blk_cell BKge.out 1).trans rfl; have c0ge_2 : wb_gx.cell? ⟨ge, 2, none⟩ = some (.int .i64 e.f2) := (blk_cell BKge.out 2).trans rfl; have c0ge_3 : wb_gx.cell? ⟨ge, 3, none⟩ = some (.int .i64 e.f3) := (blk_cell BKge.out 3).trans rfl; have c0ge_4 : wb_gx.cell? ⟨ge, 4, none⟩ = some (.int .i64 e.f4) := (blk_cell BKge.out 4).trans rfl; have c0ge_5 : wb_gx.cell? ⟨ge, 5, none⟩ = some (.int .i64 e.f5.f0) := (blk_cell BKge.out 5).trans rfl; have c0ge_6 : wb_gx.cell? ⟨ge, 6, none⟩ = some (.int .u64 e.f5.f1) := (blk_cell BKge.out 6).trans rfl; have c0ge_7 : wb_gx.cell? ⟨ge, 7, none⟩ = some (.int .u64 e.f5.f2) := (blk_cell BKge.out 7).trans rfl; have c0ge_8 : wb_gx.cell? ⟨ge, 8, none⟩ = some (.int .i64 e.f5.f3) := (blk_cell BKge.out 8).trans rfl; have c0ge_9 : wb_gx.cell? ⟨ge, 9, none⟩ = some (.int .i64 e.f6.f0) := (blk_cell BKge.out 9).trans rfl; have c0ge_10 : wb_gx.cell? ⟨ge, 10, none⟩ = some (.bool e.f6.f1) := (blk_cell BKge.out 10).trans rfl; have c0ge_11 : wb_gx.cell? ⟨ge, 11, none⟩ = some (.int .u64 e.f6.f2) := (blk_cell BKge.out 11).trans rfl; have c0ge_12 : wb_gx.cell? ⟨ge, 12, none⟩ = some (.slice Ae e.f6.f3.length ce) := (blk_cell BKge.out 12).trans rfl; clear hb hbox hg) | (go_at_call 29; (with_reducible refine (hin_Bf.calls e x Ae A ce c _).mono ?_); rintro e w2 ⟨rfl, hb⟩; have n_BKgx := Aside0.mk (blk_below (g := gx) (o := .cells #[.int .i64 x.f0, .int .i64 x.f1, .int .i64 x.f2, .int .i64 x.f3, .int .i64 x.f4, .int .i64 x.f5.f0, .int .u64 x.f5.f1, .int .u64 x.f5.f2, .int .i64 x.f5.f3, .int .i64 x.f6.f0, .bool x.f6.f1, .int .u64 x.f6.f2, .slice A x.f6.f3.length c] 54 (0, 0)) BKgx.out hb); clear BKgx; have BKgx := n_BKgx; clear n_BKgx; have n_BKge := Aside0.mk (blk_below (g := ge) (o := .cells #[.int .i64 e.f0, .int .i64 e.f1, .int .i64 e.f2, .int .i64 e.f3, .int .i64 e.f4, .int .i64 e.f5.f0, .int .u64 e.f5.f1, .int .u64 e.f5.f2, .int .i64 e.f5.f3, .int .i64 e.f6.f0, .bool e.f6.f1, .int .u64 e.f6.f2, .slice Ae e.f6.f3.length ce] 54 (0, 0)) BKge.out hb); clear BKge; have BKge := n_BKge; clear n_BKge; have n0_ := Aside0.mk (below_step HB.out hb); clear HB hb; have HB := n0_; clear n0_; have cw2gx_0 : w2.cell? ⟨gx, 0, none⟩ = some (.int .i64 x.f0) := (blk_cell BKgx.out 0).trans rfl; have cw2gx_1 : w2.cell? ⟨gx, 1, none⟩ = some (.int .i64 x.f1) := (blk_cell BKgx.out 1).trans rfl; have cw2gx_2 : w2.cell? ⟨gx, 2, none⟩ = some (.int .i64 x.f2) := (blk_cell BKgx.out 2).trans rfl; have cw2gx_3 : w2.cell? ⟨gx, 3, none⟩ = some (.int .i64 x.f3) := (blk_cell BKgx.out 3).trans rfl; have cw2gx_4 : w2.cell? ⟨gx, 4, none⟩ = some (.int .i64 x.f4) := (blk_cell BKgx.out 4).trans rfl; have cw2gx_5 : w2.cell? ⟨gx, 5, none⟩ = some (.int .i64 x.f5.f0) := (blk_cell BKgx.out 5).trans rfl; have cw2gx_6 : w2.cell? ⟨gx, 6, none⟩ = some (.int .u64 x.f5.f1) := (blk_cell BKgx.out 6).trans rfl; have cw2gx_7 : w2.cell? ⟨gx, 7, none⟩ = some (.int .u64 x.f5.f2) := (blk_cell BKgx.out 7).trans rfl; have cw2gx_8 : w2.cell? ⟨gx, 8, none⟩ = some (.int .i64 x.f5.f3) := (blk_cell BKgx.out 8).trans rfl; have cw2gx_9 : w2.cell? ⟨gx, 9, none⟩ = some (.int .i64 x.f6.f0) := (blk_cell BKgx.out 9).trans rfl; have cw2gx_10 : w2.cell? ⟨gx, 10, none⟩ = some (.bool x.f6.f1) := (blk_cell BKgx.out 10).trans rfl; have cw2gx_11 : w2.cell? ⟨gx, 11, none⟩ = some (.int .u64 x.f6.f2) := (blk_cell BKgx.out 11).trans rfl; have cw2gx_12 : w2.cell? ⟨gx, 12, none⟩ = some (.slice A x.f6.f3.length c) := (blk_cell BKgx.out 12).trans rfl; have cw2ge_0 : w2.cell? ⟨ge, 0, none⟩ = some (.int .i64 e.f0) := (blk_cell BKge.out 0).trans rfl; have cw2ge_1 : w2.cell? ⟨ge, 1, none⟩ = some (.int .i64 e.f1) := (blk_cell BKge.out 1).trans rfl; have cw2ge_2 : w2.cell? ⟨ge, 2, none⟩ = some (.int .i64 e.f2) := (blk_cell BKge.out 2).trans rfl; have cw2ge_3 : w2.cell? ⟨ge, 3, none⟩ = some (.int .i64 e.f3) := (blk_cell BKge.out 3).trans rfl; have cw2ge_4 : w2.cell? ⟨ge, 4, none⟩ = some (.int .i64 e.f4) := (blk_cell BKge.out 4).trans rfl; have cw2ge_5 : w2.cell? ⟨ge, 5, none⟩ = some (.int .i64 e.f5.f0) := (blk_cell BKge.out 5).trans rfl; have cw2ge_6 : w2.cell? ⟨ge, 6, none⟩ = some (.int .u64 e.f5.f1) := (blk_cell BKge.out 6).trans rfl; have cw2ge_7 : w2.cell? ⟨ge, 7, none⟩ = some (.int .u64 e.f5.f2) := (blk_cell BKge.out 7).trans rfl; have cw2ge_8 : w2.cell? ⟨ge, 8, none⟩ = some (.int .i64 e.f5.f3) := (blk_cell BKge.out 8).trans rfl; have cw2ge_9 : w2.cell? ⟨ge, 9, none⟩ = some (.int .i64 e.f6.f0) := (blk_cell BKge.out 9).trans rfl; have cw2ge_10 : w2.cell? ⟨ge, 10, none⟩ = some (.bool e.f6.f1) := (blk_cell BKge.out 10).trans rfl; have cw2ge_11 : w2.cell? ⟨ge, 11, none⟩ = some (.int .u64 e.f6.f2) := (blk_cell BKge.out 11).trans rfl; have cw2ge_12 : w2.cell? ⟨ge, 12, none⟩ = some (.slice Ae e.f6.f3.length ce) := (blk_cell BKge.out 12).trans rfl) | (go_at_call 29; (with_reducible refine (hin_Bf.calls x e A Ae c ce _).mono ?_); rintro e w3 ⟨rfl, hb⟩; have n_BKgx := Aside0.mk (blk_below (g := gx) (o := .cells #[.int .i64 x.f0, .int .i64 x.f1, .int .i64 x.f2, .int .i64 x.f3, .int .i64 x.f4, .int .i64 x.f5.f0, .int .u64 x.f5.f1, .int .u64 x.f5.f2, .int .i64 x.f5.f3, .int .i64 x.f6.f0, .bool x.f6.f1, .int .u64 x.f6.f2, .slice A x.f6.f3.length c] 54 (0, 0)) BKgx.out hb); clear BKgx; have BKgx := n_BKgx; clear n_BKgx; have n_BKge := Aside0.mk (blk_below (g := ge) (o := .cells #[.int .i64 e.f0, .int .i64 e.f1, .int .i64 e.f2, .int .i64 e.f3, .int .i64 e.f4, .int .i64 e.f5.f0, .int .u64 e.f5.f1, .int .u64 e.f5.f2, .int .i64 e.f5.f3, .int .i64 e.f6.f0, .bool e.f6.f1, .int .u64 e.f6.f2, .slice Ae e.f6.f3.length ce] 54 (0, 0)) BKge.out hb); clear BKge; have BKge := n_BKge; clear n_BKge; have n0_ := Aside0.mk (below_step HB.out hb); clear HB hb; have HB := n0_; clear n0_; have cw3gx_0 : w3.cell? ⟨gx, 0, none⟩ = some (.int .i64 x.f0) := (blk_cell BKgx.out 0).trans rfl; have cw3gx_1 : w3.cell? ⟨gx, 1, none⟩ = some (.int .i64 x.f1) := (blk_cell BKgx.out 1).trans rfl; have cw3gx_2 : w3.cell? ⟨gx, 2, none⟩ = some (.int .i64 x.f2) := (blk_cell BKgx.out 2).trans rfl; have cw3gx_3 : w3.cell? ⟨gx, 3, none⟩ = some (.int .i64 x.f3) := (blk_cell BKgx.out 3).trans rfl; have cw3gx_4 : w3.cell? ⟨gx, 4, none⟩ = some (.int .i64 x.f4) := (blk_cell BKgx.out 4).trans rfl; have cw3gx_5 : w3.cell? ⟨gx, 5, none⟩ = some (.int .i64 x.f5.f0) := (blk_cell BKgx.out 5).trans rfl; have cw3gx_6 : w3.cell? ⟨gx, 6, none⟩ = some (.int .u64 x.f5.f1) := (blk_cell BKgx.out 6).trans rfl; have cw3gx_7 : w3.cell? ⟨gx, 7, none⟩ = some (.int .u64 x.f5.f2) := (blk_cell BKgx.out 7).trans rfl; have cw3gx_8 : w3.cell? ⟨gx, 8, none⟩ = some (.int .i64 x.f5.f3) := (blk_cell BKgx.out 8).trans rfl; have cw3gx_9 : w3.cell? ⟨gx, 9, none⟩ = some (.int .i64 x.f6.f0) := (blk_cell BKgx.out 9).trans rfl; have cw3gx_10 : w3.cell? ⟨gx, 10, none⟩ = some (.bool x.f6.f1) := (blk_cell BKgx.out 10).trans rfl; have cw3gx_11 : w3.cell? ⟨gx, 11, none⟩ = some (.int .u64 x.f6.f2) := (blk_cell BKgx.out 11).trans rfl; have cw3gx_12 : w3.cell? ⟨gx, 12, none⟩ = some (.slice A x.f6.f3.length c) := (blk_cell BKgx.out 12).trans rfl; have cw3ge_0 : w3.cell? ⟨ge, 0, none⟩ = some (.int .i64 e.f0) := (blk_cell BKge.out 0).trans rfl; have cw3ge_1 : w3.cell? ⟨ge, 1, none⟩ = some (.int .i64 e.f1) := (blk_cell BKge.out 1).trans rfl; have cw3ge_2 : w3.cell? ⟨ge, 2, none⟩ = some (.int .i64 e.f2) := (blk_cell BKge.out 2).trans rfl; have cw3ge_3 : w3.cell? ⟨ge, 3, none⟩ = some (.int .i64 e.f3) := (blk_cell BKge.out 3).trans rfl; have cw3ge_4 : w3.cell? ⟨ge, 4, none⟩ = some (.int .i64 e.f4) := (blk_cell BKge.out 4).trans rfl; have cw3ge_5 : w3.cell? ⟨ge, 5, none⟩ = some (.int .i64 e.f5.f0) := (blk_cell BKge.out 5).trans rfl; have cw3ge_6 : w3.cell? ⟨ge, 6, none⟩ = some (.int .u64 e.f5.f1) := (blk_cell BKge.out 6).trans rfl; have cw3ge_7 : w3.cell? ⟨ge, 7, none⟩ = some (.int .u64 e.f5.f2) := (blk_cell BKge.out 7).trans rfl; have cw3ge_8 : w3.cell? ⟨ge, 8, none⟩ = some (.int .i64 e.f5.f3) := (blk_cell BKge.out 8).trans rfl; have cw3ge_9 : w3.cell? ⟨ge, 9, none⟩ = some (.int .i64 e.f6.f0) := (blk_cell BKge.out 9).trans rfl; have cw3ge_10 : w3.cell? ⟨ge, 10, none⟩ = some (.bool e.f6.f1) := (blk_cell BKge.out 10).trans rfl; have cw3ge_11 : w3.cell? ⟨ge, 11, none⟩ = some (.int .u64 e.f6.f2) := (blk_cell BKge.out 11).trans rfl; have cw3ge_12 : w3.cell? ⟨ge, 12, none⟩ = some (.slice Ae e.f6.f3.length ce) := (blk_cell BKge.out 12).trans rfl))
      go_ret
      exact ⟨by first | rfl | (simp [*]; done), by repeat (first | (with_reducible first | exact HB.out | apply below_alloc | apply pw_below_drewN | apply below_drew1) | exact HB.out)⟩
  · rw [if_neg c1]
    have c1b : (x.f5.f0 == 1) = false := beq_eq_false_iff_ne.mpr c1
    clear c1
    go_enter Try.func28, Try.ntmps28
    go_wp2_with (first | ((with_reducible refine gate_dst (N := 2) rfl ?_); refine box_event ?hg (N := 2) ?hd (cs := #[.int .i64 x.f0, .int .i64 x.f1, .int .i64 x.f2, .int .i64 x.f3, .int .i64 x.f4, .int .i64 x.f5.f0, .int .u64 x.f5.f1, .int .u64 x.f5.f2, .int .i64 x.f5.f3, .int .i64 x.f6.f0, .bool x.f6.f1, .int .u64 x.f6.f2, .slice A x.f6.f3.length c]) (t := 54) ?hr ?_; (case hd => rfl); (case hg => rfl); (case hr => first | (go_simp; done) | (go_simp; rfl)); intro gx hg wb_gx hbox hb; have BKgx := Aside0.mk hbox; have n_BKge := Aside0.mk (blk_below (g := ge) (o := .cells #[.int .i64 e.f0, .int .i64 e.f1, .int .i64 e.f2, .int .i64 e.f3, .int .i64 e.f4, .int .i64 e.f5.f0, .int .u64 e.f5.f1, .int .u64 e.f5.f2, .int .i64 e.f5.f3, .int .i64 e.f6.f0, .bool e.f6.f1, .int .u64 e.f6.f2, .slice Ae e.f6.f3.length ce] 54 (0, 0)) BKge.out hb); clear BKge; have BKge := n_BKge; clear n_BKge; have n0_ := Aside0.mk (below_step HB.out hb); clear HB; have HB := n0_; clear n0_; have c0gx_0 : wb_gx.cell? ⟨gx, 0, none⟩ = some (.int .i64 x.f0) := (blk_cell BKgx.out 0).trans rfl; have c0gx_1 : wb_gx.cell? ⟨gx, 1, none⟩ = some (.int .i64 x.f1) := (blk_cell BKgx.out 1).trans rfl; have c0gx_2 : wb_gx.cell? ⟨gx, 2, none⟩ = some (.int .i64 x.f2) := (blk_cell BKgx.out 2).trans rfl; have c0gx_3 : wb_gx.cell? ⟨gx, 3, none⟩ = some (.int .i64 x.f3) := (blk_cell BKgx.out 3).trans rfl; have c0gx_4 : wb_gx.cell? ⟨gx, 4, none⟩ = some (.int .i64 x.f4) := (blk_cell BKgx.out 4).trans rfl; have c0gx_5 : wb_gx.cell? ⟨gx, 5, none⟩ = some (.int .i64 x.f5.f0) := (blk_cell BKgx.out 5).trans rfl; have c0gx_6 : wb_gx.cell? ⟨gx, 6, none⟩ = some (.int .u64 x.f5.f1) := (blk_cell BKgx.out 6).trans rfl; have c0gx_7 : wb_gx.cell? ⟨gx, 7, none⟩ = some (.int .u64 x.f5.f2) := (blk_cell BKgx.out 7).trans rfl; have c0gx_8 : wb_gx.cell? ⟨gx, 8, none⟩ = some (.int .i64 x.f5.f3) := (blk_cell BKgx.out 8).trans rfl; have c0gx_9 : wb_gx.cell? ⟨gx, 9, none⟩ = some (.int .i64 x.f6.f0) := (blk_cell BKgx.out 9).trans rfl; have c0gx_10 : wb_gx.cell? ⟨gx, 10, none⟩ = some (.bool x.f6.f1) := (blk_cell BKgx.out 10).trans rfl; have c0gx_11 : wb_gx.cell? ⟨gx, 11, none⟩ = some (.int .u64 x.f6.f2) := (blk_cell BKgx.out 11).trans rfl; have c0gx_12 : wb_gx.cell? ⟨gx, 12, none⟩ = some (.slice A x.f6.f3.length c) := (blk_cell BKgx.out 12).trans rfl; have c0ge_0 : wb_gx.cell? ⟨ge, 0, none⟩ = some (.int .i64 e.f0) := (blk_cell BKge.out 0).trans rfl; have c0ge_1 : wb_gx.cell? ⟨ge, 1, none⟩ = some (.int .i64 e.f1) := (blk_cell BKge.out 1).trans rfl; have c0ge_2 : wb_gx.cell? ⟨ge, 2, none⟩ = some (.int .i64 e.f2) := (blk_cell BKge.out 2).trans rfl; have c0ge_3 : wb_gx.cell? ⟨ge, 3, none⟩ = some (.int .i64 e.f3) := (blk_cell BKge.out 3).trans rfl; have c0ge_4 : wb_gx.cell? ⟨ge, 4, none⟩ = some (.int .i64 e.f4) := (blk_cell BKge.out 4).trans rfl; have c0ge_5 : wb_gx.cell? ⟨ge, 5, none⟩ = some (.int .i64 e.f5.f0) := (blk_cell BKge.out 5).trans rfl; have c0ge_6 : wb_gx.cell? ⟨ge, 6, none⟩ = some (.int .u64 e.f5.f1) := (blk_cell BKge.out 6).trans rfl; have c0ge_7 : wb_gx.cell? ⟨ge, 7, none⟩ = some (.int .u64 e.f5.f2) := (blk_cell BKge.out 7).trans rfl; have c0ge_8 : wb_gx.cell? ⟨ge, 8, none⟩ = some (.int .i64 e.f5.f3) := (blk_cell BKge.out 8).trans rfl; have c0ge_9 : wb_gx.cell? ⟨ge, 9, none⟩ = some (.int .i64 e.f6.f0) := (blk_cell BKge.out 9).trans rfl; have c0ge_10 : wb_gx.cell? ⟨ge, 10, none⟩ = some (.bool e.f6.f1) := (blk_cell BKge.out 10).trans rfl; have c0ge_11 : wb_gx.cell? ⟨ge, 11, none⟩ = some (.int .u64 e.f6.f2) := (blk_cell BKge.out 11).trans rfl; have c0ge_12 : wb_gx.cell? ⟨ge, 12, none⟩ = some (.slice Ae e.f6.f3.length ce) := (blk_cell BKge.out 12).trans rfl; clear hb hbox hg))
    go_ret
    exact ⟨by first | rfl | (simp [*]; done), by repeat (first | (with_reducible first | exact HB.out | apply below_alloc | apply pw_below_drewN | apply below_drew1) | exact HB.out)⟩
def hin_c.l0 (e : S54) : Nat → List S54 → Int → Int → Option Int
 | 0, _, _, _ => none
 | k + 1, l, i, n => if i < (l.length : Int) then (if 0 ≤ i then (if history_Inserts1.f (rd_T54 l i) e = true then hin_c.l0 e k l (wrap64 (i + 1)) (wrap64 (n + 1)) else hin_c.l0 e k l (wrap64 (i + 1)) n) else none) else some n
set_option maxHeartbeats 8000000 in
set_option maxRecDepth 100000 in
theorem hin_c.calls (k : Nat) (e : S54) (Ae : Option Addr) (ce : Nat) (A0 : Option Addr) (c0 : Nat) (l0 : List S54) (r : Int) (ge : Nat) (W : World) (hr0 : Kd.C k54 W A0 l0.length l0) (hg : W.heap[ge]? = some (.cells #[.int .i64 e.f0, .int .i64 e.f1, .int .i64 e.f2, .int .i64 e.f3, .int .i64 e.f4, .int .i64 e.f5.f0, .int .u64 e.f5.f1, .int .u64 e.f5.f2, .int .i64 e.f5.f3, .int .i64 e.f6.f0, .bool e.f6.f1, .int .u64 e.f6.f2, .slice Ae e.f6.f3.length ce] 54 (0, 0))) (h : hin_c.l0 e k l0 0 0 = some r) :
    Calls Try.prog 25 #[.slice A0 l0.length c0, .func (.func 28) #[] #[.pointer (some ⟨ge, 0, none⟩)]] W fun e w' => e = .returned (.int .i64 r) ∧ Below W.heap.size W w' := by
  have HR0 := Aside0.mk hr0
  have Bhg := Aside0.mk hg
  have H' := Aside0.mk h
  have HB := Aside0.mk (Below.refl W.heap.size W)
  clear hr0 h hg
  go_enter Try.func25, Try.ntmps25
  go_wp2
  go_loopg [5, 10] k (fun kq v5 v10 w' => ∃ (n i : Int), v5 = .int .i64 n ∧ v10 = .int .i64 i ∧ Aside0 (hin_c.l0 e kq l0 i n = some r) ∧ Aside0 (kq ≤ k) ∧ Aside0 (Below W.heap.size W w'))
  case atStart => exact ⟨0, 0, by rfl, by rfl, H', ⟨Nat.le_refl _⟩, ⟨by repeat (first | (with_reducible first | exact HB.out | apply below_alloc | apply pw_below_drewN | apply below_drew1) | exact HB.out)⟩⟩
  case round =>
    clear H'
    clear HB
    try clear p2
    obtain ⟨n, i, rfl, rfl, HA, HK1, HB⟩ := hrel
    cases gk with
    | zero => exact absurd HA.out (by simp [hin_c.l0])
    | succ k1 =>
      have H := HA.out
      clear HA
      simp only [hin_c.l0] at H
      by_cases c4 : i < (l0.length : Int)
      · rw [if_pos c4] at H
        have c4b0 : decide (i < (l0.length : Int)) = true := decide_eq_true c4
        by_cases c5 : 0 ≤ i
        · rw [if_pos c5] at H
          have c5b0 : decide (0 ≤ i) = true := decide_eq_true c5
          obtain ⟨ad, A12, c12, e12, hx0, hx1, hx2, hx3, hx4, hx5, hx6, hx7, hx8, hx9, hx10, hx11, hx12, hl12, hi12⟩ := at_T54 (hin_up HR0.out HB.out) i c5 c4
          cases e12
          have HI := Aside0.mk hi12
          have HL := Aside0.mk hl12
          clear hi12 hl12
          by_cases c6 : history_Inserts1.f (rd_T54 l0 i) e = true
          · rw [if_pos c6] at H
            have c6b0 : history_Inserts1.f (rd_T54 l0 i) e = true := c6
            have H' := Aside0.mk H
            clear H
            go_wp2_with (first | (go_at_call 28; (with_reducible refine (history_Inserts1.calls (rd_T54 l0 i) e A12 Ae c12 ce ge _ (blk_alloc (blk_below Bhg.out HB.out) _)).mono ?_); rintro e w1 ⟨rfl, hb⟩; have n0_ := Aside0.mk (below_step (below_alloc HB.out _) hb); clear HB hb; have HB := n0_; clear n0_))
            go_roundg k1
            case measure => have := HK1.out; omega
            case rel => exact ⟨wrap64 (n + 1), wrap64 (i + 1), (by first | rfl | (simp; done) | (simp [*]; done)), (by first | rfl | (simp; done) | (simp [*]; done)), H', ⟨by have := HK1.out; omega⟩, ⟨by repeat (first | (with_reducible first | exact HB.out | apply below_alloc | apply pw_below_drewN | apply below_drew1) | exact HB.out)⟩⟩
          · rw [if_neg c6] at H
            have c6b0 : history_Inserts1.f (rd_T54 l0 i) e = false := Bool.eq_false_iff.mpr c6
            have H' := Aside0.mk H
            clear H
            go_wp2_with (first | (go_at_call 28; (with_reducible refine (history_Inserts1.calls (rd_T54 l0 i) e A12 Ae c12 ce ge _ (blk_alloc (blk_below Bhg.out HB.out) _)).mono ?_); rintro e w1 ⟨rfl, hb⟩; have n0_ := Aside0.mk (below_step (below_alloc HB.out _) hb); clear HB hb; have HB := n0_; clear n0_))
            go_roundg k1
            case measure => have := HK1.out; omega
            case rel => exact ⟨n, wrap64 (i + 1), (by first | rfl | (simp; done) | (simp [*]; done)), (by first | rfl | (simp; done) | (simp [*]; done)), H', ⟨by have := HK1.out; omega⟩, ⟨by repeat (first | (with_reducible first | exact HB.out | apply below_alloc | apply pw_below_drewN | apply below_drew1) | exact HB.out)⟩⟩
        · rw [if_neg c5] at H
          exact absurd H (by simp)
      · rw [if_neg c4] at H
        have c4b0 : decide (i < (l0.length : Int)) = false := decide_eq_false c4
        clear c4
        obtain rfl := Option.some.inj H
        clear H
        go_wp2
        go_ret
        exact ⟨by first | rfl | (simp [*]; done), by repeat (first | (with_reducible first | exact HB.out | apply below_alloc | apply pw_below_drewN | apply below_drew1) | exact HB.out)⟩
set_option maxHeartbeats 8000000 in
set_option maxRecDepth 100000 in
theorem history_Inserts.law (k : Nat) (A0 : Option Addr) (c0 : Nat) (l0 : List S54) (e : S54) (Ae : Option Addr) (ce : Nat) (r : Int) (w : World) (hr0 : Kd.C k54 w A0 l0.length l0) (h : hin_c.l0 e k l0 0 0 = some r) :
    Calls Try.prog 17 #[.slice A0 l0.length c0, .agg #[.int .i64 e.f0, .int .i64 e.f1, .int .i64 e.f2, .int .i64 e.f3, .int .i64 e.f4, .int .i64 e.f5.f0, .int .u64 e.f5.f1, .int .u64 e.f5.f2, .int .i64 e.f5.f3, .int .i64 e.f6.f0, .bool e.f6.f1, .int .u64 e.f6.f2, .slice Ae e.f6.f3.length ce]] w fun e w' => e = .returned (.int .i64 r) ∧ Below w.heap.size w w' := by
  have hmf : ∀ (fn : Fn) (first cap : Array Value) (w : World), (Instr.makeFunc fn first cap).run Try.prog w = .ok (.func fn first cap) w := fun _ _ _ _ => rfl
  have HR0 := Aside0.mk hr0
  have H' := Aside0.mk h
  have HB := Aside0.mk (Below.refl w.heap.size w)
  clear hr0 h
  go_enter Try.func17, Try.ntmps17
  go_wp2_with (first | ((with_reducible refine gate_dst (N := 3) rfl ?_); refine box_event ?hg (N := 3) ?hd (cs := #[.int .i64 e.f0, .int .i64 e.f1, .int .i64 e.f2, .int .i64 e.f3, .int .i64 e.f4, .int .i64 e.f5.f0, .int .u64 e.f5.f1, .int .u64 e.f5.f2, .int .i64 e.f5.f3, .int .i64 e.f6.f0, .bool e.f6.f1, .int .u64 e.f6.f2, .slice Ae e.f6.f3.length ce]) (t := 54) ?hr ?_; (case hd => rfl); (case hg => rfl); (case hr => first | (go_simp; done) | (go_simp; rfl)); intro ge hg wb_ge hbox hb; have BKge := Aside0.mk hbox; have n0_ := Aside0.mk (below_step HB.out hb); clear HB; have HB := n0_; clear n0_; clear hb hbox hg) | (go_at_call 25; (with_reducible refine (hin_c.calls k e Ae ce A0 c0 l0 r ge _ (hin_up HR0.out HB.out) BKge.out H'.out).mono ?_); rintro e w1 ⟨rfl, hb⟩; have n0_ := Aside0.mk (below_step HB.out hb); clear HB hb; have HB := n0_; clear n0_))
  go_ret
  exact ⟨rfl, by repeat (first | (with_reducible first | exact HB.out | apply below_alloc | apply pw_below_drewN | apply below_drew1) | exact HB.out)⟩
end Go.Proofs.Ytbhakljebcmocaa.PBoundKeeps
end
section
namespace Go.Proofs.Ytbhakljebcmocaa.PBoundKeeps
open Go.RowKit Go.Proofs.YtbhakljebcmocaaW.PrintWords Go.Proofs.YtbhakljebcmocaaW.PrintLast Go.Proofs.YtbhakljebcmocaaW.PrintMore
set_option linter.unusedVariables false
set_option linter.unusedSimpArgs false
theorem bof_heap : Kd.Heap k54 := by
 unfold k54
 refine Kd.heap_iso _ (Kd.heap_pair (Kd.heap_int _) (Kd.heap_pair (Kd.heap_int _) (Kd.heap_pair (Kd.heap_int _) (Kd.heap_pair (Kd.heap_int _) (Kd.heap_pair (Kd.heap_int _) (Kd.heap_pair ?_ ?_))))))
 ·exact Kd.heap_iso _ (Kd.heap_pair (Kd.heap_int _) (Kd.heap_pair (Kd.heap_int _) (Kd.heap_pair (Kd.heap_int _) (Kd.heap_int _))))
 ·exact Kd.heap_iso _ (Kd.heap_pair (Kd.heap_int _) (Kd.heap_pair Kd.heap_bool (Kd.heap_pair (Kd.heap_int _) (Kd.heap_slice _ (Kd.heap_iso _ (Kd.heap_pair (Kd.heap_int _) (Kd.heap_int _)))))))
theorem bof_up {w w1 : World} {A : Option Addr} {n : Nat} {xs : List S54} (h : Kd.C k54 w A n xs) (hb : Below w.heap.size w w1) : Kd.C k54 w1 A n xs := bof_heap.C (fun k hk => hb.block k hk) h
def bound_Of.T1 : Bool × List (List Nat × List Nat) := (true, [([], []), ([], []), ([1], [1]), ([0, 2], [0, 2]), ([3], [3]), ([], []), ([], []), ([5, 6, 3], [5, 6]), ([4, 7, 0, 1, 2, 3, 4], [4]), ([7, 8, 0, 1, 2, 3, 4, 5, 6, 7, 8], [7])])
def bound_Of.B1 : List Nat := [0, 0, 2, 7, 15, 0, 0, 111, 255, 511]
theorem bound_Of.tab1 : rtab .any (opsOf Try.f11 1) = bound_Of.T1 := by kernel_rfl
theorem bound_Of.bits1 : waitsOk bound_Of.T1.2 bound_Of.B1 = true := by kernel_rfl
def bound_Of.g (k : Nat) (t b i f c : Int) (l1 : List S54) (e : S54) : Option Int := (history_Size.f k l1 e.f2).bind fun s => (hin_c.l0 e k l1 0 0).bind fun n => if e.f5.f0 = 4 then bound_Scan.f k t b i f c (if s < 0 then 0 else s) n else bound_Point.f k t b i f c (if s < 0 then 0 else s) n
set_option maxHeartbeats 8000000 in
set_option maxRecDepth 100000 in
theorem bound_Of.law (k : Nat) (t b i f c : Int) (A1 : Option Addr) (c1 : Nat) (l1 : List S54) (e : S54) (Ae : Option Addr) (ce : Nat) (r : Int) (w : World) (hr1 : Kd.C k54 w A1 l1.length l1) (hc1 : l1.length ≤ c1) (h : bound_Of.g k t b i f c l1 e = some r) :
    Calls Try.prog 11 #[.agg #[.int .i64 t, .int .i64 b, .int .i64 i, .int .i64 f, .int .i64 c], .slice A1 l1.length c1, .agg #[.int .i64 e.f0, .int .i64 e.f1, .int .i64 e.f2, .int .i64 e.f3, .int .i64 e.f4, .int .i64 e.f5.f0, .int .u64 e.f5.f1, .int .u64 e.f5.f2, .int .i64 e.f5.f3, .int .i64 e.f6.f0, .bool e.f6.f1, .int .u64 e.f6.f2, .slice Ae e.f6.f3.length ce]] w fun e_ w' => e_ = .returned (.int .i64 r) ∧ Below w.heap.size w w' := by
  have HR1 := Aside0.mk hr1
  have HC1 := Aside0.mk hc1
  obtain ⟨s, hs, h⟩ := Option.bind_eq_some_iff.mp h
  obtain ⟨n, hn, h⟩ := Option.bind_eq_some_iff.mp h
  have Hs := Aside0.mk hs
  have Hn := Aside0.mk hn
  have HB := Aside0.mk (Below.refl w.heap.size w)
  clear hr1 hc1 hs hn
  by_cases q1 : e.f5.f0 = 4
  · rw [if_pos q1] at h
    have q1b : (e.f5.f0 == 4) = true := beq_iff_eq.mpr q1
    clear q1
    go_enter Try.func11, Try.ntmps11
    go_wp2_with (first | ((with_reducible refine gate_dst (N := 3) rfl ?_); refine box_event ?hg (N := 3) ?hd (cs := #[.int .i64 t, .int .i64 b, .int .i64 i, .int .i64 f, .int .i64 c]) (t := 23) ?hr ?_; (case hd => rfl); (case hg => rfl); (case hr => first | (go_simp; done) | (go_simp; rfl)); intro gc hg wb_gc hbox hb; have BKgc := Aside0.mk hbox; have n0_ := Aside0.mk (below_step HB.out hb); clear HB; have HB := n0_; clear n0_; clear hb hbox hg) | ((with_reducible refine gate_dst (N := 5) rfl ?_); refine box_event ?hg (N := 5) ?hd (cs := #[.int .i64 e.f0, .int .i64 e.f1, .int .i64 e.f2, .int .i64 e.f3, .int .i64 e.f4, .int .i64 e.f5.f0, .int .u64 e.f5.f1, .int .u64 e.f5.f2, .int .i64 e.f5.f3, .int .i64 e.f6.f0, .bool e.f6.f1, .int .u64 e.f6.f2, .slice Ae e.f6.f3.length ce]) (t := 54) ?hr ?_; (case hd => rfl); (case hg => rfl); (case hr => first | (go_simp; done) | (go_simp; rfl)); intro ge hg wb_ge hbox hb; have BKge := Aside0.mk hbox; have n_BKgc := Aside0.mk (blk_below (g := gc) (o := .cells #[.int .i64 t, .int .i64 b, .int .i64 i, .int .i64 f, .int .i64 c] 23 (0, 0)) BKgc.out hb); clear BKgc; have BKgc := n_BKgc; clear n_BKgc; have n0_ := Aside0.mk (below_step HB.out hb); clear HB; have HB := n0_; clear n0_; clear hb hbox hg))
    have n_BKge := Aside0.mk (blk_drew (g := ge) (o := .cells #[.int .i64 e.f0, .int .i64 e.f1, .int .i64 e.f2, .int .i64 e.f3, .int .i64 e.f4, .int .i64 e.f5.f0, .int .u64 e.f5.f1, .int .u64 e.f5.f2, .int .i64 e.f5.f3, .int .i64 e.f6.f0, .bool e.f6.f1, .int .u64 e.f6.f2, .slice Ae e.f6.f3.length ce] 54 (0, 0)) BKge.out)
    clear BKge
    have BKge := n_BKge
    clear n_BKge
    have n_BKgc := Aside0.mk (blk_drew (g := gc) (o := .cells #[.int .i64 t, .int .i64 b, .int .i64 i, .int .i64 f, .int .i64 c] 23 (0, 0)) BKgc.out)
    clear BKgc
    have BKgc := n_BKgc
    clear n_BKgc
    have n1_ := Aside0.mk (below_drew1 HB.out)
    clear HB
    have HB := n1_
    clear n1_
    refine start_ (n := 10) (S := fun w' => w'.cell? ⟨ge, 0, none⟩ = some (.int .i64 e.f0) ∧ w'.cell? ⟨ge, 1, none⟩ = some (.int .i64 e.f1) ∧ w'.cell? ⟨ge, 2, none⟩ = some (.int .i64 e.f2) ∧ w'.cell? ⟨ge, 3, none⟩ = some (.int .i64 e.f3) ∧ w'.cell? ⟨ge, 4, none⟩ = some (.int .i64 e.f4) ∧ w'.cell? ⟨ge, 5, none⟩ = some (.int .i64 e.f5.f0) ∧ w'.cell? ⟨ge, 6, none⟩ = some (.int .u64 e.f5.f1) ∧ w'.cell? ⟨ge, 7, none⟩ = some (.int .u64 e.f5.f2) ∧ w'.cell? ⟨ge, 8, none⟩ = some (.int .i64 e.f5.f3) ∧ w'.cell? ⟨ge, 9, none⟩ = some (.int .i64 e.f6.f0) ∧ w'.cell? ⟨ge, 10, none⟩ = some (.bool e.f6.f1) ∧ w'.cell? ⟨ge, 11, none⟩ = some (.int .u64 e.f6.f2) ∧ w'.cell? ⟨ge, 12, none⟩ = some (.slice Ae e.f6.f3.length ce) ∧ w'.cell? ⟨gc, 0, none⟩ = some (.int .i64 t) ∧ w'.cell? ⟨gc, 1, none⟩ = some (.int .i64 b) ∧ w'.cell? ⟨gc, 2, none⟩ = some (.int .i64 i) ∧ w'.cell? ⟨gc, 3, none⟩ = some (.int .i64 f) ∧ w'.cell? ⟨gc, 4, none⟩ = some (.int .i64 c)) (ds := []) #[false, false, false, false, false, false, false, false, false, false] (by kernel_rfl) rfl rfl ⟨(blk_cell BKge.out 0).trans rfl, (blk_cell BKge.out 1).trans rfl, (blk_cell BKge.out 2).trans rfl, (blk_cell BKge.out 3).trans rfl, (blk_cell BKge.out 4).trans rfl, (blk_cell BKge.out 5).trans rfl, (blk_cell BKge.out 6).trans rfl, (blk_cell BKge.out 7).trans rfl, (blk_cell BKge.out 8).trans rfl, (blk_cell BKge.out 9).trans rfl, (blk_cell BKge.out 10).trans rfl, (blk_cell BKge.out 11).trans rfl, (blk_cell BKge.out 12).trans rfl, (blk_cell BKgc.out 0).trans rfl, (blk_cell BKgc.out 1).trans rfl, (blk_cell BKgc.out 2).trans rfl, (blk_cell BKgc.out 3).trans rfl, (blk_cell BKgc.out 4).trans rfl⟩ (fun hHeld => ?_); refine with_tabW bound_Of.tab1 bound_Of.bits1 (fun HT_ HW_ => ?_)
    generalize wb_ge.drew = W1 at BKge BKgc HB hHeld ⊢
    refine pure_ (i := 0) (N := some 9) (v := ?_) (a' := ?_) #[true, false, false, false, false, false, false, false, false, false] rfl rfl (any_of HT_.out (by kernel_rfl)) (fun _ _ _ h => h) (Or.inl ⟨by rfl, ?_⟩) ?_ ?_
    rotate_left
    · intro w'
      go_simp
      with_reducible rfl
    rotate_left
    · simp only [Act.put, List.setIfInBounds_toArray, List.set_cons_zero, List.set_cons_succ, i64_w]
      rfl
    refine pure_ (i := 1) (N := some 10) (v := ?_) (a' := ?_) #[true, true, false, false, false, false, false, false, false, false] rfl rfl (any_of HT_.out (by kernel_rfl)) (fun _ _ _ h => h) (Or.inl ⟨by rfl, ?_⟩) ?_ ?_
    rotate_left
    · intro w'
      go_simp
      with_reducible rfl
    rotate_left
    · simp only [Act.put, List.setIfInBounds_toArray, List.set_cons_zero, List.set_cons_succ, i64_w]
      rfl
    refine take_ (i := 2) (N := some 11) (v := ?_) (a' := ?_) #[true, true, true, false, false, false, false, false, false, false] rfl rfl (take_ofW HT_.out HW_.out (by kernel_rfl)) (fun _ _ _ h => h) (Or.inl ⟨by rfl, ?_⟩) hHeld ?_ ?_
    rotate_left
    · rintro w' ⟨s0, s1, s2, s3, s4, s5, s6, s7, s8, s9, s10, s11, s12, s13, s14, s15, s16, s17⟩
      go_simp
      with_reducible rfl
    rotate_left
    · simp only [Act.put, List.setIfInBounds_toArray, List.set_cons_zero, List.set_cons_succ, i64_w]
      rfl
    refine pure_ (i := 5) (N := some 14) (v := ?_) (a' := ?_) #[true, true, true, false, false, true, false, false, false, false] rfl rfl (any_of HT_.out (by kernel_rfl)) (fun _ _ _ h => h) (Or.inl ⟨by rfl, ?_⟩) ?_ ?_
    rotate_left
    · intro w'
      go_simp
      with_reducible rfl
    rotate_left
    · simp only [Act.put, List.setIfInBounds_toArray, List.set_cons_zero, List.set_cons_succ, i64_w]
      rfl
    refine take_ (i := 6) (N := some 15) (v := ?_) (a' := ?_) #[true, true, true, false, false, true, true, false, false, false] rfl rfl (take_ofW HT_.out HW_.out (by kernel_rfl)) (fun _ _ _ h => h) (Or.inl ⟨by rfl, ?_⟩) hHeld ?_ ?_
    rotate_left
    · rintro w' ⟨s0, s1, s2, s3, s4, s5, s6, s7, s8, s9, s10, s11, s12, s13, s14, s15, s16, s17⟩
      go_simp
      with_reducible rfl
    rotate_left
    · simp only [Act.put, List.setIfInBounds_toArray, List.set_cons_zero, List.set_cons_succ, i64_w]
      rfl
    refine one_ (i := 3) (N := some 12) #[true, true, true, true, false, true, true, false, false, false] rfl rfl (one_of HT_.out (by kernel_rfl)) (by decide) (fun K hK => ?_)
    refine goes_ Try.func16 (by kernel_rfl) rfl #[.slice A1 l1.length c1, .int .i64 e.f2] (by rfl) rfl rfl (by (try simp only [List.map_toArray, List.map_cons, List.map_nil]); first | done | rfl) ?_
    with_reducible refine (history_Size.calls k A1 c1 l1 e.f2 s _ (bof_up HR1.out HB.out) HC1.out Hs.out).mono ?_
    rintro e w2 ⟨rfl, hb⟩
    refine ⟨_, rfl, ?_⟩
    have n_BKge := Aside0.mk (blk_below (g := ge) (o := .cells #[.int .i64 e.f0, .int .i64 e.f1, .int .i64 e.f2, .int .i64 e.f3, .int .i64 e.f4, .int .i64 e.f5.f0, .int .u64 e.f5.f1, .int .u64 e.f5.f2, .int .i64 e.f5.f3, .int .i64 e.f6.f0, .bool e.f6.f1, .int .u64 e.f6.f2, .slice Ae e.f6.f3.length ce] 54 (0, 0)) BKge.out hb)
    clear BKge
    have BKge := n_BKge
    clear n_BKge
    have n_BKgc := Aside0.mk (blk_below (g := gc) (o := .cells #[.int .i64 t, .int .i64 b, .int .i64 i, .int .i64 f, .int .i64 c] 23 (0, 0)) BKgc.out hb)
    clear BKgc
    have BKgc := n_BKgc
    clear n_BKgc
    have n1_ := Aside0.mk (below_step HB.out hb)
    clear HB hb
    have HB := n1_
    clear n1_
    refine hK.out _ _ ⟨(blk_cell BKge.out 0).trans rfl, (blk_cell BKge.out 1).trans rfl, (blk_cell BKge.out 2).trans rfl, (blk_cell BKge.out 3).trans rfl, (blk_cell BKge.out 4).trans rfl, (blk_cell BKge.out 5).trans rfl, (blk_cell BKge.out 6).trans rfl, (blk_cell BKge.out 7).trans rfl, (blk_cell BKge.out 8).trans rfl, (blk_cell BKge.out 9).trans rfl, (blk_cell BKge.out 10).trans rfl, (blk_cell BKge.out 11).trans rfl, (blk_cell BKge.out 12).trans rfl, (blk_cell BKgc.out 0).trans rfl, (blk_cell BKgc.out 1).trans rfl, (blk_cell BKgc.out 2).trans rfl, (blk_cell BKgc.out 3).trans rfl, (blk_cell BKgc.out 4).trans rfl⟩ (fun hHeld => ?_)
    clear hK K
    refine norm_ (a' := ?_) ?_ ?_
    rotate_left
    · show Act.put _ (some 12) _ = _
      simp only [Act.put, List.setIfInBounds_toArray, List.set_cons_zero, List.set_cons_succ, i64_w]
      rfl
    refine pure_ (i := 4) (N := some 13) (v := ?_) (a' := ?_) #[true, true, true, true, true, true, true, false, false, false] rfl rfl (any_of HT_.out (by kernel_rfl)) (fun _ _ _ h => h) (Or.inl ⟨by rfl, ?_⟩) ?_ ?_
    rotate_left
    · intro w'
      go_simp
      with_reducible rfl
    rotate_left
    · simp only [Act.put, List.setIfInBounds_toArray, List.set_cons_zero, List.set_cons_succ, i64_w]
      rfl
    generalize hm : (if s < 0 then (0 : Int) else s) = m at h ⊢
    clear hm
    refine one_ (i := 7) (N := some 16) #[true, true, true, true, true, true, true, true, false, false] rfl rfl (one_of HT_.out (by kernel_rfl)) (by decide) (fun K hK => ?_)
    refine goes_ Try.func17 (by kernel_rfl) rfl #[.slice A1 l1.length c1, .agg #[.int .i64 e.f0, .int .i64 e.f1, .int .i64 e.f2, .int .i64 e.f3, .int .i64 e.f4, .int .i64 e.f5.f0, .int .u64 e.f5.f1, .int .u64 e.f5.f2, .int .i64 e.f5.f3, .int .i64 e.f6.f0, .bool e.f6.f1, .int .u64 e.f6.f2, .slice Ae e.f6.f3.length ce]] (by rfl) rfl rfl (by (try simp only [List.map_toArray, List.map_cons, List.map_nil]); first | done | rfl) ?_
    with_reducible refine (history_Inserts.law k A1 c1 l1 e Ae ce n _ (bof_up HR1.out HB.out) Hn.out).mono ?_
    rintro e w3 ⟨rfl, hb⟩
    refine ⟨_, rfl, ?_⟩
    have n_BKge := Aside0.mk (blk_below (g := ge) (o := .cells #[.int .i64 e.f0, .int .i64 e.f1, .int .i64 e.f2, .int .i64 e.f3, .int .i64 e.f4, .int .i64 e.f5.f0, .int .u64 e.f5.f1, .int .u64 e.f5.f2, .int .i64 e.f5.f3, .int .i64 e.f6.f0, .bool e.f6.f1, .int .u64 e.f6.f2, .slice Ae e.f6.f3.length ce] 54 (0, 0)) BKge.out hb)
    clear BKge
    have BKge := n_BKge
    clear n_BKge
    have n_BKgc := Aside0.mk (blk_below (g := gc) (o := .cells #[.int .i64 t, .int .i64 b, .int .i64 i, .int .i64 f, .int .i64 c] 23 (0, 0)) BKgc.out hb)
    clear BKgc
    have BKgc := n_BKgc
    clear n_BKgc
    have n1_ := Aside0.mk (below_step HB.out hb)
    clear HB hb
    have HB := n1_
    clear n1_
    refine hK.out _ _ ⟨(blk_cell BKge.out 0).trans rfl, (blk_cell BKge.out 1).trans rfl, (blk_cell BKge.out 2).trans rfl, (blk_cell BKge.out 3).trans rfl, (blk_cell BKge.out 4).trans rfl, (blk_cell BKge.out 5).trans rfl, (blk_cell BKge.out 6).trans rfl, (blk_cell BKge.out 7).trans rfl, (blk_cell BKge.out 8).trans rfl, (blk_cell BKge.out 9).trans rfl, (blk_cell BKge.out 10).trans rfl, (blk_cell BKge.out 11).trans rfl, (blk_cell BKge.out 12).trans rfl, (blk_cell BKgc.out 0).trans rfl, (blk_cell BKgc.out 1).trans rfl, (blk_cell BKgc.out 2).trans rfl, (blk_cell BKgc.out 3).trans rfl, (blk_cell BKgc.out 4).trans rfl⟩ (fun hHeld => ?_)
    clear hK K
    refine norm_ (a' := ?_) ?_ ?_
    rotate_left
    · show Act.put _ (some 16) _ = _
      simp only [Act.put, List.setIfInBounds_toArray, List.set_cons_zero, List.set_cons_succ, i64_w]
      rfl
    refine pure_ (i := 8) (N := some 7) (v := ?_) (a' := ?_) #[true, true, true, true, true, true, true, true, true, false] rfl rfl (any_of HT_.out (by kernel_rfl)) (fun _ _ _ h => h) (Or.inl ⟨by rfl, ?_⟩) ?_ ?_
    rotate_left
    · intro w'
      go_simp
      with_reducible rfl
    rotate_left
    · simp only [Act.put, List.setIfInBounds_toArray, List.set_cons_zero, List.set_cons_succ, i64_w]
      rfl
    refine pure_ (i := 9) (N := some 8) (v := ?_) (a' := ?_) #[true, true, true, true, true, true, true, true, true, true] rfl rfl (any_of HT_.out (by kernel_rfl)) (fun _ _ _ h => h) (Or.inl ⟨by rfl, ?_⟩) ?_ ?_
    rotate_left
    · intro w'
      go_simp
      with_reducible rfl
    rotate_left
    · simp only [Act.put, List.setIfInBounds_toArray, List.set_cons_zero, List.set_cons_succ, i64_w]
      rfl
    refine done_ (done_of HT_.out (by kernel_rfl)) ?_
    have HH := Aside0.mk h
    clear h
    have cw3ge_0 : w3.cell? ⟨ge, 0, none⟩ = some (.int .i64 e.f0) := (blk_cell BKge.out 0).trans rfl
    have cw3ge_1 : w3.cell? ⟨ge, 1, none⟩ = some (.int .i64 e.f1) := (blk_cell BKge.out 1).trans rfl
    have cw3ge_2 : w3.cell? ⟨ge, 2, none⟩ = some (.int .i64 e.f2) := (blk_cell BKge.out 2).trans rfl
    have cw3ge_3 : w3.cell? ⟨ge, 3, none⟩ = some (.int .i64 e.f3) := (blk_cell BKge.out 3).trans rfl
    have cw3ge_4 : w3.cell? ⟨ge, 4, none⟩ = some (.int .i64 e.f4) := (blk_cell BKge.out 4).trans rfl
    have cw3ge_5 : w3.cell? ⟨ge, 5, none⟩ = some (.int .i64 e.f5.f0) := (blk_cell BKge.out 5).trans rfl
    have cw3ge_6 : w3.cell? ⟨ge, 6, none⟩ = some (.int .u64 e.f5.f1) := (blk_cell BKge.out 6).trans rfl
    have cw3ge_7 : w3.cell? ⟨ge, 7, none⟩ = some (.int .u64 e.f5.f2) := (blk_cell BKge.out 7).trans rfl
    have cw3ge_8 : w3.cell? ⟨ge, 8, none⟩ = some (.int .i64 e.f5.f3) := (blk_cell BKge.out 8).trans rfl
    have cw3ge_9 : w3.cell? ⟨ge, 9, none⟩ = some (.int .i64 e.f6.f0) := (blk_cell BKge.out 9).trans rfl
    have cw3ge_10 : w3.cell? ⟨ge, 10, none⟩ = some (.bool e.f6.f1) := (blk_cell BKge.out 10).trans rfl
    have cw3ge_11 : w3.cell? ⟨ge, 11, none⟩ = some (.int .u64 e.f6.f2) := (blk_cell BKge.out 11).trans rfl
    have cw3ge_12 : w3.cell? ⟨ge, 12, none⟩ = some (.slice Ae e.f6.f3.length ce) := (blk_cell BKge.out 12).trans rfl
    have cw3gc_0 : w3.cell? ⟨gc, 0, none⟩ = some (.int .i64 t) := (blk_cell BKgc.out 0).trans rfl
    have cw3gc_1 : w3.cell? ⟨gc, 1, none⟩ = some (.int .i64 b) := (blk_cell BKgc.out 1).trans rfl
    have cw3gc_2 : w3.cell? ⟨gc, 2, none⟩ = some (.int .i64 i) := (blk_cell BKgc.out 2).trans rfl
    have cw3gc_3 : w3.cell? ⟨gc, 3, none⟩ = some (.int .i64 f) := (blk_cell BKgc.out 3).trans rfl
    have cw3gc_4 : w3.cell? ⟨gc, 4, none⟩ = some (.int .i64 c) := (blk_cell BKgc.out 4).trans rfl
    go_wp2_with (first | (go_at_call 10; (with_reducible refine (bound_Scan.calls k t b i f c m n r _ HH.out).mono ?_); rintro e_ w4 ⟨rfl, hb⟩; have n0_ := Aside0.mk (below_step HB.out hb); clear HB hb; have HB := n0_; clear n0_))
    go_ret
    exact ⟨rfl, by repeat (first | (with_reducible first | exact HB.out | apply below_alloc | apply pw_below_drewN | apply below_drew1) | exact HB.out)⟩
  · rw [if_neg q1] at h
    have q1b : (e.f5.f0 == 4) = false := beq_eq_false_iff_ne.mpr q1
    clear q1
    go_enter Try.func11, Try.ntmps11
    go_wp2_with (first | ((with_reducible refine gate_dst (N := 3) rfl ?_); refine box_event ?hg (N := 3) ?hd (cs := #[.int .i64 t, .int .i64 b, .int .i64 i, .int .i64 f, .int .i64 c]) (t := 23) ?hr ?_; (case hd => rfl); (case hg => rfl); (case hr => first | (go_simp; done) | (go_simp; rfl)); intro gc hg wb_gc hbox hb; have BKgc := Aside0.mk hbox; have n0_ := Aside0.mk (below_step HB.out hb); clear HB; have HB := n0_; clear n0_; clear hb hbox hg) | ((with_reducible refine gate_dst (N := 5) rfl ?_); refine box_event ?hg (N := 5) ?hd (cs := #[.int .i64 e.f0, .int .i64 e.f1, .int .i64 e.f2, .int .i64 e.f3, .int .i64 e.f4, .int .i64 e.f5.f0, .int .u64 e.f5.f1, .int .u64 e.f5.f2, .int .i64 e.f5.f3, .int .i64 e.f6.f0, .bool e.f6.f1, .int .u64 e.f6.f2, .slice Ae e.f6.f3.length ce]) (t := 54) ?hr ?_; (case hd => rfl); (case hg => rfl); (case hr => first | (go_simp; done) | (go_simp; rfl)); intro ge hg wb_ge hbox hb; have BKge := Aside0.mk hbox; have n_BKgc := Aside0.mk (blk_below (g := gc) (o := .cells #[.int .i64 t, .int .i64 b, .int .i64 i, .int .i64 f, .int .i64 c] 23 (0, 0)) BKgc.out hb); clear BKgc; have BKgc := n_BKgc; clear n_BKgc; have n0_ := Aside0.mk (below_step HB.out hb); clear HB; have HB := n0_; clear n0_; clear hb hbox hg))
    have n_BKge := Aside0.mk (blk_drew (g := ge) (o := .cells #[.int .i64 e.f0, .int .i64 e.f1, .int .i64 e.f2, .int .i64 e.f3, .int .i64 e.f4, .int .i64 e.f5.f0, .int .u64 e.f5.f1, .int .u64 e.f5.f2, .int .i64 e.f5.f3, .int .i64 e.f6.f0, .bool e.f6.f1, .int .u64 e.f6.f2, .slice Ae e.f6.f3.length ce] 54 (0, 0)) BKge.out)
    clear BKge
    have BKge := n_BKge
    clear n_BKge
    have n_BKgc := Aside0.mk (blk_drew (g := gc) (o := .cells #[.int .i64 t, .int .i64 b, .int .i64 i, .int .i64 f, .int .i64 c] 23 (0, 0)) BKgc.out)
    clear BKgc
    have BKgc := n_BKgc
    clear n_BKgc
    have n1_ := Aside0.mk (below_drew1 HB.out)
    clear HB
    have HB := n1_
    clear n1_
    refine start_ (n := 10) (S := fun w' => w'.cell? ⟨ge, 0, none⟩ = some (.int .i64 e.f0) ∧ w'.cell? ⟨ge, 1, none⟩ = some (.int .i64 e.f1) ∧ w'.cell? ⟨ge, 2, none⟩ = some (.int .i64 e.f2) ∧ w'.cell? ⟨ge, 3, none⟩ = some (.int .i64 e.f3) ∧ w'.cell? ⟨ge, 4, none⟩ = some (.int .i64 e.f4) ∧ w'.cell? ⟨ge, 5, none⟩ = some (.int .i64 e.f5.f0) ∧ w'.cell? ⟨ge, 6, none⟩ = some (.int .u64 e.f5.f1) ∧ w'.cell? ⟨ge, 7, none⟩ = some (.int .u64 e.f5.f2) ∧ w'.cell? ⟨ge, 8, none⟩ = some (.int .i64 e.f5.f3) ∧ w'.cell? ⟨ge, 9, none⟩ = some (.int .i64 e.f6.f0) ∧ w'.cell? ⟨ge, 10, none⟩ = some (.bool e.f6.f1) ∧ w'.cell? ⟨ge, 11, none⟩ = some (.int .u64 e.f6.f2) ∧ w'.cell? ⟨ge, 12, none⟩ = some (.slice Ae e.f6.f3.length ce) ∧ w'.cell? ⟨gc, 0, none⟩ = some (.int .i64 t) ∧ w'.cell? ⟨gc, 1, none⟩ = some (.int .i64 b) ∧ w'.cell? ⟨gc, 2, none⟩ = some (.int .i64 i) ∧ w'.cell? ⟨gc, 3, none⟩ = some (.int .i64 f) ∧ w'.cell? ⟨gc, 4, none⟩ = some (.int .i64 c)) (ds := []) #[false, false, false, false, false, false, false, false, false, false] (by kernel_rfl) rfl rfl ⟨(blk_cell BKge.out 0).trans rfl, (blk_cell BKge.out 1).trans rfl, (blk_cell BKge.out 2).trans rfl, (blk_cell BKge.out 3).trans rfl, (blk_cell BKge.out 4).trans rfl, (blk_cell BKge.out 5).trans rfl, (blk_cell BKge.out 6).trans rfl, (blk_cell BKge.out 7).trans rfl, (blk_cell BKge.out 8).trans rfl, (blk_cell BKge.out 9).trans rfl, (blk_cell BKge.out 10).trans rfl, (blk_cell BKge.out 11).trans rfl, (blk_cell BKge.out 12).trans rfl, (blk_cell BKgc.out 0).trans rfl, (blk_cell BKgc.out 1).trans rfl, (blk_cell BKgc.out 2).trans rfl, (blk_cell BKgc.out 3).trans rfl, (blk_cell BKgc.out 4).trans rfl⟩ (fun hHeld => ?_); refine with_tabW bound_Of.tab1 bound_Of.bits1 (fun HT_ HW_ => ?_)
    generalize wb_ge.drew = W1 at BKge BKgc HB hHeld ⊢
    refine pure_ (i := 0) (N := some 9) (v := ?_) (a' := ?_) #[true, false, false, false, false, false, false, false, false, false] rfl rfl (any_of HT_.out (by kernel_rfl)) (fun _ _ _ h => h) (Or.inl ⟨by rfl, ?_⟩) ?_ ?_
    rotate_left
    · intro w'
      go_simp
      with_reducible rfl
    rotate_left
    · simp only [Act.put, List.setIfInBounds_toArray, List.set_cons_zero, List.set_cons_succ, i64_w]
      rfl
    refine pure_ (i := 1) (N := some 10) (v := ?_) (a' := ?_) #[true, true, false, false, false, false, false, false, false, false] rfl rfl (any_of HT_.out (by kernel_rfl)) (fun _ _ _ h => h) (Or.inl ⟨by rfl, ?_⟩) ?_ ?_
    rotate_left
    · intro w'
      go_simp
      with_reducible rfl
    rotate_left
    · simp only [Act.put, List.setIfInBounds_toArray, List.set_cons_zero, List.set_cons_succ, i64_w]
      rfl
    refine take_ (i := 2) (N := some 11) (v := ?_) (a' := ?_) #[true, true, true, false, false, false, false, false, false, false] rfl rfl (take_ofW HT_.out HW_.out (by kernel_rfl)) (fun _ _ _ h => h) (Or.inl ⟨by rfl, ?_⟩) hHeld ?_ ?_
    rotate_left
    · rintro w' ⟨s0, s1, s2, s3, s4, s5, s6, s7, s8, s9, s10, s11, s12, s13, s14, s15, s16, s17⟩
      go_simp
      with_reducible rfl
    rotate_left
    · simp only [Act.put, List.setIfInBounds_toArray, List.set_cons_zero, List.set_cons_succ, i64_w]
      rfl
    refine pure_ (i := 5) (N := some 14) (v := ?_) (a' := ?_) #[true, true, true, false, false, true, false, false, false, false] rfl rfl (any_of HT_.out (by kernel_rfl)) (fun _ _ _ h => h) (Or.inl ⟨by rfl, ?_⟩) ?_ ?_
    rotate_left
    · intro w'
      go_simp
      with_reducible rfl
    rotate_left
    · simp only [Act.put, List.setIfInBounds_toArray, List.set_cons_zero, List.set_cons_succ, i64_w]
      rfl
    refine take_ (i := 6) (N := some 15) (v := ?_) (a' := ?_) #[true, true, true, false, false, true, true, false, false, false] rfl rfl (take_ofW HT_.out HW_.out (by kernel_rfl)) (fun _ _ _ h => h) (Or.inl ⟨by rfl, ?_⟩) hHeld ?_ ?_
    rotate_left
    · rintro w' ⟨s0, s1, s2, s3, s4, s5, s6, s7, s8, s9, s10, s11, s12, s13, s14, s15, s16, s17⟩
      go_simp
      with_reducible rfl
    rotate_left
    · simp only [Act.put, List.setIfInBounds_toArray, List.set_cons_zero, List.set_cons_succ, i64_w]
      rfl
    refine one_ (i := 3) (N := some 12) #[true, true, true, true, false, true, true, false, false, false] rfl rfl (one_of HT_.out (by kernel_rfl)) (by decide) (fun K hK => ?_)
    refine goes_ Try.func16 (by kernel_rfl) rfl #[.slice A1 l1.length c1, .int .i64 e.f2] (by rfl) rfl rfl (by (try simp only [List.map_toArray, List.map_cons, List.map_nil]); first | done | rfl) ?_
    with_reducible refine (history_Size.calls k A1 c1 l1 e.f2 s _ (bof_up HR1.out HB.out) HC1.out Hs.out).mono ?_
    rintro e w2 ⟨rfl, hb⟩
    refine ⟨_, rfl, ?_⟩
    have n_BKge := Aside0.mk (blk_below (g := ge) (o := .cells #[.int .i64 e.f0, .int .i64 e.f1, .int .i64 e.f2, .int .i64 e.f3, .int .i64 e.f4, .int .i64 e.f5.f0, .int .u64 e.f5.f1, .int .u64 e.f5.f2, .int .i64 e.f5.f3, .int .i64 e.f6.f0, .bool e.f6.f1, .int .u64 e.f6.f2, .slice Ae e.f6.f3.length ce] 54 (0, 0)) BKge.out hb)
    clear BKge
    have BKge := n_BKge
    clear n_BKge
    have n_BKgc := Aside0.mk (blk_below (g := gc) (o := .cells #[.int .i64 t, .int .i64 b, .int .i64 i, .int .i64 f, .int .i64 c] 23 (0, 0)) BKgc.out hb)
    clear BKgc
    have BKgc := n_BKgc
    clear n_BKgc
    have n1_ := Aside0.mk (below_step HB.out hb)
    clear HB hb
    have HB := n1_
    clear n1_
    refine hK.out _ _ ⟨(blk_cell BKge.out 0).trans rfl, (blk_cell BKge.out 1).trans rfl, (blk_cell BKge.out 2).trans rfl, (blk_cell BKge.out 3).trans rfl, (blk_cell BKge.out 4).trans rfl, (blk_cell BKge.out 5).trans rfl, (blk_cell BKge.out 6).trans rfl, (blk_cell BKge.out 7).trans rfl, (blk_cell BKge.out 8).trans rfl, (blk_cell BKge.out 9).trans rfl, (blk_cell BKge.out 10).trans rfl, (blk_cell BKge.out 11).trans rfl, (blk_cell BKge.out 12).trans rfl, (blk_cell BKgc.out 0).trans rfl, (blk_cell BKgc.out 1).trans rfl, (blk_cell BKgc.out 2).trans rfl, (blk_cell BKgc.out 3).trans rfl, (blk_cell BKgc.out 4).trans rfl⟩ (fun hHeld => ?_)
    clear hK K
    refine norm_ (a' := ?_) ?_ ?_
    rotate_left
    · show Act.put _ (some 12) _ = _
      simp only [Act.put, List.setIfInBounds_toArray, List.set_cons_zero, List.set_cons_succ, i64_w]
      rfl
    refine pure_ (i := 4) (N := some 13) (v := ?_) (a' := ?_) #[true, true, true, true, true, true, true, false, false, false] rfl rfl (any_of HT_.out (by kernel_rfl)) (fun _ _ _ h => h) (Or.inl ⟨by rfl, ?_⟩) ?_ ?_
    rotate_left
    · intro w'
      go_simp
      with_reducible rfl
    rotate_left
    · simp only [Act.put, List.setIfInBounds_toArray, List.set_cons_zero, List.set_cons_succ, i64_w]
      rfl
    generalize hm : (if s < 0 then (0 : Int) else s) = m at h ⊢
    clear hm
    refine one_ (i := 7) (N := some 16) #[true, true, true, true, true, true, true, true, false, false] rfl rfl (one_of HT_.out (by kernel_rfl)) (by decide) (fun K hK => ?_)
    refine goes_ Try.func17 (by kernel_rfl) rfl #[.slice A1 l1.length c1, .agg #[.int .i64 e.f0, .int .i64 e.f1, .int .i64 e.f2, .int .i64 e.f3, .int .i64 e.f4, .int .i64 e.f5.f0, .int .u64 e.f5.f1, .int .u64 e.f5.f2, .int .i64 e.f5.f3, .int .i64 e.f6.f0, .bool e.f6.f1, .int .u64 e.f6.f2, .slice Ae e.f6.f3.length ce]] (by rfl) rfl rfl (by (try simp only [List.map_toArray, List.map_cons, List.map_nil]); first | done | rfl) ?_
    with_reducible refine (history_Inserts.law k A1 c1 l1 e Ae ce n _ (bof_up HR1.out HB.out) Hn.out).mono ?_
    rintro e w3 ⟨rfl, hb⟩
    refine ⟨_, rfl, ?_⟩
    have n_BKge := Aside0.mk (blk_below (g := ge) (o := .cells #[.int .i64 e.f0, .int .i64 e.f1, .int .i64 e.f2, .int .i64 e.f3, .int .i64 e.f4, .int .i64 e.f5.f0, .int .u64 e.f5.f1, .int .u64 e.f5.f2, .int .i64 e.f5.f3, .int .i64 e.f6.f0, .bool e.f6.f1, .int .u64 e.f6.f2, .slice Ae e.f6.f3.length ce] 54 (0, 0)) BKge.out hb)
    clear BKge
    have BKge := n_BKge
    clear n_BKge
    have n_BKgc := Aside0.mk (blk_below (g := gc) (o := .cells #[.int .i64 t, .int .i64 b, .int .i64 i, .int .i64 f, .int .i64 c] 23 (0, 0)) BKgc.out hb)
    clear BKgc
    have BKgc := n_BKgc
    clear n_BKgc
    have n1_ := Aside0.mk (below_step HB.out hb)
    clear HB hb
    have HB := n1_
    clear n1_
    refine hK.out _ _ ⟨(blk_cell BKge.out 0).trans rfl, (blk_cell BKge.out 1).trans rfl, (blk_cell BKge.out 2).trans rfl, (blk_cell BKge.out 3).trans rfl, (blk_cell BKge.out 4).trans rfl, (blk_cell BKge.out 5).trans rfl, (blk_cell BKge.out 6).trans rfl, (blk_cell BKge.out 7).trans rfl, (blk_cell BKge.out 8).trans rfl, (blk_cell BKge.out 9).trans rfl, (blk_cell BKge.out 10).trans rfl, (blk_cell BKge.out 11).trans rfl, (blk_cell BKge.out 12).trans rfl, (blk_cell BKgc.out 0).trans rfl, (blk_cell BKgc.out 1).trans rfl, (blk_cell BKgc.out 2).trans rfl, (blk_cell BKgc.out 3).trans rfl, (blk_cell BKgc.out 4).trans rfl⟩ (fun hHeld => ?_)
    clear hK K
    refine norm_ (a' := ?_) ?_ ?_
    rotate_left
    · show Act.put _ (some 16) _ = _
      simp only [Act.put, List.setIfInBounds_toArray, List.set_cons_zero, List.set_cons_succ, i64_w]
      rfl
    refine pure_ (i := 8) (N := some 7) (v := ?_) (a' := ?_) #[true, true, true, true, true, true, true, true, true, false] rfl rfl (any_of HT_.out (by kernel_rfl)) (fun _ _ _ h => h) (Or.inl ⟨by rfl, ?_⟩) ?_ ?_
    rotate_left
    · intro w'
      go_simp
      with_reducible rfl
    rotate_left
    · simp only [Act.put, List.setIfInBounds_toArray, List.set_cons_zero, List.set_cons_succ, i64_w]
      rfl
    refine pure_ (i := 9) (N := some 8) (v := ?_) (a' := ?_) #[true, true, true, true, true, true, true, true, true, true] rfl rfl (any_of HT_.out (by kernel_rfl)) (fun _ _ _ h => h) (Or.inl ⟨by rfl, ?_⟩) ?_ ?_
    rotate_left
    · intro w'
      go_simp
      with_reducible rfl
    rotate_left
    · simp only [Act.put, List.setIfInBounds_toArray, List.set_cons_zero, List.set_cons_succ, i64_w]
      rfl
    refine done_ (done_of HT_.out (by kernel_rfl)) ?_
    have HH := Aside0.mk h
    clear h
    have cw3ge_0 : w3.cell? ⟨ge, 0, none⟩ = some (.int .i64 e.f0) := (blk_cell BKge.out 0).trans rfl
    have cw3ge_1 : w3.cell? ⟨ge, 1, none⟩ = some (.int .i64 e.f1) := (blk_cell BKge.out 1).trans rfl
    have cw3ge_2 : w3.cell? ⟨ge, 2, none⟩ = some (.int .i64 e.f2) := (blk_cell BKge.out 2).trans rfl
    have cw3ge_3 : w3.cell? ⟨ge, 3, none⟩ = some (.int .i64 e.f3) := (blk_cell BKge.out 3).trans rfl
    have cw3ge_4 : w3.cell? ⟨ge, 4, none⟩ = some (.int .i64 e.f4) := (blk_cell BKge.out 4).trans rfl
    have cw3ge_5 : w3.cell? ⟨ge, 5, none⟩ = some (.int .i64 e.f5.f0) := (blk_cell BKge.out 5).trans rfl
    have cw3ge_6 : w3.cell? ⟨ge, 6, none⟩ = some (.int .u64 e.f5.f1) := (blk_cell BKge.out 6).trans rfl
    have cw3ge_7 : w3.cell? ⟨ge, 7, none⟩ = some (.int .u64 e.f5.f2) := (blk_cell BKge.out 7).trans rfl
    have cw3ge_8 : w3.cell? ⟨ge, 8, none⟩ = some (.int .i64 e.f5.f3) := (blk_cell BKge.out 8).trans rfl
    have cw3ge_9 : w3.cell? ⟨ge, 9, none⟩ = some (.int .i64 e.f6.f0) := (blk_cell BKge.out 9).trans rfl
    have cw3ge_10 : w3.cell? ⟨ge, 10, none⟩ = some (.bool e.f6.f1) := (blk_cell BKge.out 10).trans rfl
    have cw3ge_11 : w3.cell? ⟨ge, 11, none⟩ = some (.int .u64 e.f6.f2) := (blk_cell BKge.out 11).trans rfl
    have cw3ge_12 : w3.cell? ⟨ge, 12, none⟩ = some (.slice Ae e.f6.f3.length ce) := (blk_cell BKge.out 12).trans rfl
    have cw3gc_0 : w3.cell? ⟨gc, 0, none⟩ = some (.int .i64 t) := (blk_cell BKgc.out 0).trans rfl
    have cw3gc_1 : w3.cell? ⟨gc, 1, none⟩ = some (.int .i64 b) := (blk_cell BKgc.out 1).trans rfl
    have cw3gc_2 : w3.cell? ⟨gc, 2, none⟩ = some (.int .i64 i) := (blk_cell BKgc.out 2).trans rfl
    have cw3gc_3 : w3.cell? ⟨gc, 3, none⟩ = some (.int .i64 f) := (blk_cell BKgc.out 3).trans rfl
    have cw3gc_4 : w3.cell? ⟨gc, 4, none⟩ = some (.int .i64 c) := (blk_cell BKgc.out 4).trans rfl
    go_wp2_with (first | (go_at_call 9; (with_reducible refine (bound_Point.calls k t b i f c m n r _ HH.out).mono ?_); rintro e_ w4 ⟨rfl, hb⟩; have n0_ := Aside0.mk (below_step HB.out hb); clear HB hb; have HB := n0_; clear n0_))
    go_ret
    exact ⟨rfl, by repeat (first | (with_reducible first | exact HB.out | apply below_alloc | apply pw_below_drewN | apply below_drew1) | exact HB.out)⟩
def bound_Ok.T4 : Bool × List (List Nat × List Nat) := (true, [([], []), ([0], [0]), ([], []), ([], []), ([], []), ([2, 3, 4], [2, 3, 4]), ([1, 5], [1, 5])])
def bound_Ok.B4 : List Nat := [0, 1, 0, 0, 0, 28, 63]
theorem bound_Ok.tab4 : rtab .any (opsOf Try.f8 4) = bound_Ok.T4 := by kernel_rfl
theorem bound_Ok.bits4 : waitsOk bound_Ok.T4.2 bound_Ok.B4 = true := by kernel_rfl
def bound_Ok.l0 : Nat → Int → Int → Int → Int → Int → List S54 → Int → Option Bool
 | 0, _, _, _, _, _, _, _ => none
 | k + 1, t, b, i, f, c, l1, j => if j < (l1.length : Int) then (if 0 ≤ j then ((bound_Of.g k t b i f c l1 (rd_T54 l1 j)).bind fun q => if (rd_T54 l1 j).f4 > q then some false else bound_Ok.l0 k t b i f c l1 (wrap64 (j + 1))) else none) else some true
def bound_Ok.f (k : Nat) (a0_0 : Int) (a0_1 : Int) (a0_2 : Int) (a0_3 : Int) (a0_4 : Int) (l1 : List S54) : Option Bool := bound_Ok.l0 k a0_0 a0_1 a0_2 a0_3 a0_4 l1 0
set_option maxHeartbeats 8000000 in
set_option maxRecDepth 100000 in
theorem bound_Ok.law (k : Nat) (t b i f c : Int) (A1 : Option Addr) (c1 : Nat) (l1 : List S54) (r : Bool) (w : World) (hr1 : Kd.C k54 w A1 l1.length l1) (hc1 : l1.length ≤ c1) (h : bound_Ok.f k t b i f c l1 = some r) :
    Calls Try.prog 8 #[.agg #[.int .i64 t, .int .i64 b, .int .i64 i, .int .i64 f, .int .i64 c], .slice A1 l1.length c1] w fun e_ w' => e_ = .returned (.bool r) ∧ Below w.heap.size w w' := by
  have HR1 := Aside0.mk hr1
  have HC1 := Aside0.mk hc1
  have H' := Aside0.mk (show bound_Ok.l0 k t b i f c l1 0 = some r from h)
  have HB := Aside0.mk (Below.refl w.heap.size w)
  clear hr1 hc1 h
  go_enter Try.func8, Try.ntmps8
  go_wp2_with (first | ((with_reducible refine gate_dst (N := 2) rfl ?_); refine box_event ?hg (N := 2) ?hd (cs := #[.int .i64 t, .int .i64 b, .int .i64 i, .int .i64 f, .int .i64 c]) (t := 23) ?hr ?_; (case hd => rfl); (case hg => rfl); (case hr => first | (go_simp; done) | (go_simp; rfl)); intro gc hg wb_gc hbox hb; have BKgc := Aside0.mk hbox; have n0_ := Aside0.mk (below_step HB.out hb); clear HB; have HB := n0_; clear n0_; clear hb hbox hg))
  go_loopg [9] k (fun kq v9 w' => ∃ (j : Int), v9 = .int .i64 j ∧ Aside0 (bound_Ok.l0 kq t b i f c l1 j = some r) ∧ Aside0 (kq ≤ k) ∧ Aside0 (w'.heap[gc]? = some (.cells #[.int .i64 t, .int .i64 b, .int .i64 i, .int .i64 f, .int .i64 c] 23 (0, 0))) ∧ Aside0 (Below w.heap.size w w'))
  case atStart => exact ⟨0, by rfl, H', ⟨Nat.le_refl _⟩, ⟨by (with_reducible repeat (first | refine blk_drewN ?_ _ | refine blk_drew ?_ | refine blk_alloc ?_ _)); exact BKgc.out⟩, ⟨by repeat (first | (with_reducible first | exact HB.out | apply below_alloc | apply pw_below_drewN | apply below_drew1) | exact HB.out)⟩⟩
  case round =>
    clear H'
    clear HB BKgc
    try clear p2
    obtain ⟨j, rfl, HA, HK1, BKgc, HB⟩ := hrel
    cases gk with
    | zero => exact absurd HA.out (by simp [bound_Ok.l0])
    | succ k1 =>
      have H := HA.out
      clear HA
      simp only [bound_Ok.l0] at H
      by_cases c4 : j < (l1.length : Int)
      · rw [if_pos c4] at H
        have c4b0 : decide (j < (l1.length : Int)) = true := decide_eq_true c4
        by_cases c5 : 0 ≤ j
        · rw [if_pos c5] at H
          have c5b0 : decide (0 ≤ j) = true := decide_eq_true c5
          obtain ⟨ad, A12, c12, e12, hx0, hx1, hx2, hx3, hx4, hx5, hx6, hx7, hx8, hx9, hx10, hx11, hx12, hl12, hi12⟩ := at_T54 (bof_up HR1.out HB.out) j c5 c4
          cases e12
          have HI := Aside0.mk hi12
          have HL := Aside0.mk hl12
          clear hi12 hl12
          obtain ⟨q, hq, H⟩ := Option.bind_eq_some_iff.mp H
          have Hq := Aside0.mk hq
          clear hq
          by_cases c6 : (rd_T54 l1 j).f4 > q
          · rw [if_pos c6] at H
            obtain rfl := Option.some.inj H
            have c6b : decide (q < (rd_T54 l1 j).f4) = true := decide_eq_true c6
            clear c6 H
            go_wp2
            have BKge := Aside0.mk (blk_new wr (.cells #[.int .i64 (rd_T54 l1 j).f0, .int .i64 (rd_T54 l1 j).f1, .int .i64 (rd_T54 l1 j).f2, .int .i64 (rd_T54 l1 j).f3, .int .i64 (rd_T54 l1 j).f4, .int .i64 (rd_T54 l1 j).f5.f0, .int .u64 (rd_T54 l1 j).f5.f1, .int .u64 (rd_T54 l1 j).f5.f2, .int .i64 (rd_T54 l1 j).f5.f3, .int .i64 (rd_T54 l1 j).f6.f0, .bool (rd_T54 l1 j).f6.f1, .int .u64 (rd_T54 l1 j).f6.f2, .slice A12 (rd_T54 l1 j).f6.f3.length c12] 54 (0, 0)))
            have n_ := Aside0.mk (blk_alloc (g := gc) (o := .cells #[.int .i64 t, .int .i64 b, .int .i64 i, .int .i64 f, .int .i64 c] 23 (0, 0)) BKgc.out (.cells #[.int .i64 (rd_T54 l1 j).f0, .int .i64 (rd_T54 l1 j).f1, .int .i64 (rd_T54 l1 j).f2, .int .i64 (rd_T54 l1 j).f3, .int .i64 (rd_T54 l1 j).f4, .int .i64 (rd_T54 l1 j).f5.f0, .int .u64 (rd_T54 l1 j).f5.f1, .int .u64 (rd_T54 l1 j).f5.f2, .int .i64 (rd_T54 l1 j).f5.f3, .int .i64 (rd_T54 l1 j).f6.f0, .bool (rd_T54 l1 j).f6.f1, .int .u64 (rd_T54 l1 j).f6.f2, .slice A12 (rd_T54 l1 j).f6.f3.length c12] 54 (0, 0)))
            clear BKgc
            have BKgc := n_
            clear n_
            have n_ := Aside0.mk (below_alloc HB.out (.cells #[.int .i64 (rd_T54 l1 j).f0, .int .i64 (rd_T54 l1 j).f1, .int .i64 (rd_T54 l1 j).f2, .int .i64 (rd_T54 l1 j).f3, .int .i64 (rd_T54 l1 j).f4, .int .i64 (rd_T54 l1 j).f5.f0, .int .u64 (rd_T54 l1 j).f5.f1, .int .u64 (rd_T54 l1 j).f5.f2, .int .i64 (rd_T54 l1 j).f5.f3, .int .i64 (rd_T54 l1 j).f6.f0, .bool (rd_T54 l1 j).f6.f1, .int .u64 (rd_T54 l1 j).f6.f2, .slice A12 (rd_T54 l1 j).f6.f3.length c12] 54 (0, 0)))
            clear HB
            have HB := n_
            clear n_
            have n_BKge := Aside0.mk (blk_drew (g := wr.heap.size) (o := .cells #[.int .i64 (rd_T54 l1 j).f0, .int .i64 (rd_T54 l1 j).f1, .int .i64 (rd_T54 l1 j).f2, .int .i64 (rd_T54 l1 j).f3, .int .i64 (rd_T54 l1 j).f4, .int .i64 (rd_T54 l1 j).f5.f0, .int .u64 (rd_T54 l1 j).f5.f1, .int .u64 (rd_T54 l1 j).f5.f2, .int .i64 (rd_T54 l1 j).f5.f3, .int .i64 (rd_T54 l1 j).f6.f0, .bool (rd_T54 l1 j).f6.f1, .int .u64 (rd_T54 l1 j).f6.f2, .slice A12 (rd_T54 l1 j).f6.f3.length c12] 54 (0, 0)) BKge.out)
            clear BKge
            have BKge := n_BKge
            clear n_BKge
            have n_BKgc := Aside0.mk (blk_drew (g := gc) (o := .cells #[.int .i64 t, .int .i64 b, .int .i64 i, .int .i64 f, .int .i64 c] 23 (0, 0)) BKgc.out)
            clear BKgc
            have BKgc := n_BKgc
            clear n_BKgc
            have n1_ := Aside0.mk (below_drew1 HB.out)
            clear HB
            have HB := n1_
            clear n1_
            refine start_ (n := 7) (S := fun w' => w'.cell? ⟨wr.heap.size, 0, none⟩ = some (.int .i64 (rd_T54 l1 j).f0) ∧ w'.cell? ⟨wr.heap.size, 1, none⟩ = some (.int .i64 (rd_T54 l1 j).f1) ∧ w'.cell? ⟨wr.heap.size, 2, none⟩ = some (.int .i64 (rd_T54 l1 j).f2) ∧ w'.cell? ⟨wr.heap.size, 3, none⟩ = some (.int .i64 (rd_T54 l1 j).f3) ∧ w'.cell? ⟨wr.heap.size, 4, none⟩ = some (.int .i64 (rd_T54 l1 j).f4) ∧ w'.cell? ⟨wr.heap.size, 5, none⟩ = some (.int .i64 (rd_T54 l1 j).f5.f0) ∧ w'.cell? ⟨wr.heap.size, 6, none⟩ = some (.int .u64 (rd_T54 l1 j).f5.f1) ∧ w'.cell? ⟨wr.heap.size, 7, none⟩ = some (.int .u64 (rd_T54 l1 j).f5.f2) ∧ w'.cell? ⟨wr.heap.size, 8, none⟩ = some (.int .i64 (rd_T54 l1 j).f5.f3) ∧ w'.cell? ⟨wr.heap.size, 9, none⟩ = some (.int .i64 (rd_T54 l1 j).f6.f0) ∧ w'.cell? ⟨wr.heap.size, 10, none⟩ = some (.bool (rd_T54 l1 j).f6.f1) ∧ w'.cell? ⟨wr.heap.size, 11, none⟩ = some (.int .u64 (rd_T54 l1 j).f6.f2) ∧ w'.cell? ⟨wr.heap.size, 12, none⟩ = some (.slice A12 (rd_T54 l1 j).f6.f3.length c12) ∧ w'.cell? ⟨gc, 0, none⟩ = some (.int .i64 t) ∧ w'.cell? ⟨gc, 1, none⟩ = some (.int .i64 b) ∧ w'.cell? ⟨gc, 2, none⟩ = some (.int .i64 i) ∧ w'.cell? ⟨gc, 3, none⟩ = some (.int .i64 f) ∧ w'.cell? ⟨gc, 4, none⟩ = some (.int .i64 c)) (ds := []) #[false, false, false, false, false, false, false] (by kernel_rfl) rfl rfl ⟨(blk_cell BKge.out 0).trans rfl, (blk_cell BKge.out 1).trans rfl, (blk_cell BKge.out 2).trans rfl, (blk_cell BKge.out 3).trans rfl, (blk_cell BKge.out 4).trans rfl, (blk_cell BKge.out 5).trans rfl, (blk_cell BKge.out 6).trans rfl, (blk_cell BKge.out 7).trans rfl, (blk_cell BKge.out 8).trans rfl, (blk_cell BKge.out 9).trans rfl, (blk_cell BKge.out 10).trans rfl, (blk_cell BKge.out 11).trans rfl, (blk_cell BKge.out 12).trans rfl, (blk_cell BKgc.out 0).trans rfl, (blk_cell BKgc.out 1).trans rfl, (blk_cell BKgc.out 2).trans rfl, (blk_cell BKgc.out 3).trans rfl, (blk_cell BKgc.out 4).trans rfl⟩ (fun hHeld => ?_); refine with_tabW bound_Ok.tab4 bound_Ok.bits4 (fun HT_ HW_ => ?_)
            generalize (wr.alloc (.cells #[.int .i64 (rd_T54 l1 j).f0, .int .i64 (rd_T54 l1 j).f1, .int .i64 (rd_T54 l1 j).f2, .int .i64 (rd_T54 l1 j).f3, .int .i64 (rd_T54 l1 j).f4, .int .i64 (rd_T54 l1 j).f5.f0, .int .u64 (rd_T54 l1 j).f5.f1, .int .u64 (rd_T54 l1 j).f5.f2, .int .i64 (rd_T54 l1 j).f5.f3, .int .i64 (rd_T54 l1 j).f6.f0, .bool (rd_T54 l1 j).f6.f1, .int .u64 (rd_T54 l1 j).f6.f2, .slice A12 (rd_T54 l1 j).f6.f3.length c12] 54 (0, 0))).drew = W1 at BKge BKgc HB hHeld ⊢
            refine pure_ (i := 0) (N := some 13) (v := ?_) (a' := ?_) #[true, false, false, false, false, false, false] rfl rfl (any_of HT_.out (by kernel_rfl)) (fun _ _ _ h => h) (Or.inl ⟨by rfl, ?_⟩) ?_ ?_
            rotate_left
            · intro w'
              go_simp
              with_reducible rfl
            rotate_left
            · simp only [Act.put, List.setIfInBounds_toArray, List.set_cons_zero, List.set_cons_succ, i64_w]
              rfl
            refine take_ (i := 1) (N := some 14) (v := ?_) (a' := ?_) #[true, true, false, false, false, false, false] rfl rfl (take_ofW HT_.out HW_.out (by kernel_rfl)) (fun _ _ _ h => h) (Or.inl ⟨by rfl, ?_⟩) hHeld ?_ ?_
            rotate_left
            · rintro w' ⟨s0, s1, s2, s3, s4, s5, s6, s7, s8, s9, s10, s11, s12, s13, s14, s15, s16, s17⟩
              go_simp
              with_reducible rfl
            rotate_left
            · simp only [Act.put, List.setIfInBounds_toArray, List.set_cons_zero, List.set_cons_succ, i64_w]
              rfl
            refine take_ (i := 2) (N := some 15) (v := ?_) (a' := ?_) #[true, true, true, false, false, false, false] rfl rfl (take_ofW HT_.out HW_.out (by kernel_rfl)) (fun _ _ _ h => h) (Or.inl ⟨by rfl, ?_⟩) hHeld ?_ ?_
            rotate_left
            · rintro w' ⟨s0, s1, s2, s3, s4, s5, s6, s7, s8, s9, s10, s11, s12, s13, s14, s15, s16, s17⟩
              go_simp
              with_reducible rfl
            rotate_left
            · simp only [Act.put, List.setIfInBounds_toArray, List.set_cons_zero, List.set_cons_succ, i64_w]
              rfl
            refine pure_ (i := 3) (N := some 16) (v := ?_) (a' := ?_) #[true, true, true, true, false, false, false] rfl rfl (any_of HT_.out (by kernel_rfl)) (fun _ _ _ h => h) (Or.inl ⟨by rfl, ?_⟩) ?_ ?_
            rotate_left
            · intro w'
              go_simp
              with_reducible rfl
            rotate_left
            · simp only [Act.put, List.setIfInBounds_toArray, List.set_cons_zero, List.set_cons_succ, i64_w]
              rfl
            refine take_ (i := 4) (N := some 17) (v := ?_) (a' := ?_) #[true, true, true, true, true, false, false] rfl rfl (take_ofW HT_.out HW_.out (by kernel_rfl)) (fun _ _ _ h => h) (Or.inl ⟨by rfl, ?_⟩) hHeld ?_ ?_
            rotate_left
            · rintro w' ⟨s0, s1, s2, s3, s4, s5, s6, s7, s8, s9, s10, s11, s12, s13, s14, s15, s16, s17⟩
              go_simp
              with_reducible rfl
            rotate_left
            · simp only [Act.put, List.setIfInBounds_toArray, List.set_cons_zero, List.set_cons_succ, i64_w]
              rfl
            refine one_ (i := 5) (N := some 18) #[true, true, true, true, true, true, false] rfl rfl (one_of HT_.out (by kernel_rfl)) (by decide) (fun K hK => ?_)
            refine goes_ Try.func11 (by kernel_rfl) rfl #[.agg #[.int .i64 t, .int .i64 b, .int .i64 i, .int .i64 f, .int .i64 c], .slice (some ad) l1.length c1, .agg #[.int .i64 (rd_T54 l1 j).f0, .int .i64 (rd_T54 l1 j).f1, .int .i64 (rd_T54 l1 j).f2, .int .i64 (rd_T54 l1 j).f3, .int .i64 (rd_T54 l1 j).f4, .int .i64 (rd_T54 l1 j).f5.f0, .int .u64 (rd_T54 l1 j).f5.f1, .int .u64 (rd_T54 l1 j).f5.f2, .int .i64 (rd_T54 l1 j).f5.f3, .int .i64 (rd_T54 l1 j).f6.f0, .bool (rd_T54 l1 j).f6.f1, .int .u64 (rd_T54 l1 j).f6.f2, .slice A12 (rd_T54 l1 j).f6.f3.length c12]] (by rfl) rfl rfl (by (try simp only [List.map_toArray, List.map_cons, List.map_nil]); first | done | rfl) ?_
            with_reducible refine (bound_Of.law k1 t b i f c (some ad) c1 l1 (rd_T54 l1 j) A12 c12 q _ (bof_up HR1.out HB.out) HC1.out Hq.out).mono ?_
            rintro e w2 ⟨rfl, hb⟩
            refine ⟨_, rfl, ?_⟩
            have n_BKge := Aside0.mk (blk_below (g := wr.heap.size) (o := .cells #[.int .i64 (rd_T54 l1 j).f0, .int .i64 (rd_T54 l1 j).f1, .int .i64 (rd_T54 l1 j).f2, .int .i64 (rd_T54 l1 j).f3, .int .i64 (rd_T54 l1 j).f4, .int .i64 (rd_T54 l1 j).f5.f0, .int .u64 (rd_T54 l1 j).f5.f1, .int .u64 (rd_T54 l1 j).f5.f2, .int .i64 (rd_T54 l1 j).f5.f3, .int .i64 (rd_T54 l1 j).f6.f0, .bool (rd_T54 l1 j).f6.f1, .int .u64 (rd_T54 l1 j).f6.f2, .slice A12 (rd_T54 l1 j).f6.f3.length c12] 54 (0, 0)) BKge.out hb)
            clear BKge
            have BKge := n_BKge
            clear n_BKge
            have n_BKgc := Aside0.mk (blk_below (g := gc) (o := .cells #[.int .i64 t, .int .i64 b, .int .i64 i, .int .i64 f, .int .i64 c] 23 (0, 0)) BKgc.out hb)
            clear BKgc
            have BKgc := n_BKgc
            clear n_BKgc
            have n1_ := Aside0.mk (below_step HB.out hb)
            clear HB hb
            have HB := n1_
            clear n1_
            refine hK.out _ _ ⟨(blk_cell BKge.out 0).trans rfl, (blk_cell BKge.out 1).trans rfl, (blk_cell BKge.out 2).trans rfl, (blk_cell BKge.out 3).trans rfl, (blk_cell BKge.out 4).trans rfl, (blk_cell BKge.out 5).trans rfl, (blk_cell BKge.out 6).trans rfl, (blk_cell BKge.out 7).trans rfl, (blk_cell BKge.out 8).trans rfl, (blk_cell BKge.out 9).trans rfl, (blk_cell BKge.out 10).trans rfl, (blk_cell BKge.out 11).trans rfl, (blk_cell BKge.out 12).trans rfl, (blk_cell BKgc.out 0).trans rfl, (blk_cell BKgc.out 1).trans rfl, (blk_cell BKgc.out 2).trans rfl, (blk_cell BKgc.out 3).trans rfl, (blk_cell BKgc.out 4).trans rfl⟩ (fun hHeld => ?_)
            clear hK K
            refine norm_ (a' := ?_) ?_ ?_
            rotate_left
            · show Act.put _ (some 18) _ = _
              simp only [Act.put, List.setIfInBounds_toArray, List.set_cons_zero, List.set_cons_succ, i64_w]
              rfl
            refine pure_ (i := 6) (N := some 19) (v := ?_) (a' := ?_) #[true, true, true, true, true, true, true] rfl rfl (any_of HT_.out (by kernel_rfl)) (fun _ _ _ h => h) (Or.inl ⟨by rfl, ?_⟩) ?_ ?_
            rotate_left
            · intro w'
              go_simp
              with_reducible rfl
            rotate_left
            · simp only [Act.put, List.setIfInBounds_toArray, List.set_cons_zero, List.set_cons_succ, i64_w]
              rfl
            refine done_ (done_of HT_.out (by kernel_rfl)) ?_
            go_wp2
            go_ret
            exact ⟨by first | rfl | (simp [*]; done), by repeat (first | (with_reducible first | exact HB.out | apply below_alloc | apply pw_below_drewN | apply below_drew1) | exact HB.out)⟩
          · rw [if_neg c6] at H
            have c6b : decide (q < (rd_T54 l1 j).f4) = false := decide_eq_false c6
            clear c6
            have H' := Aside0.mk H
            clear H
            go_wp2
            have BKge := Aside0.mk (blk_new wr (.cells #[.int .i64 (rd_T54 l1 j).f0, .int .i64 (rd_T54 l1 j).f1, .int .i64 (rd_T54 l1 j).f2, .int .i64 (rd_T54 l1 j).f3, .int .i64 (rd_T54 l1 j).f4, .int .i64 (rd_T54 l1 j).f5.f0, .int .u64 (rd_T54 l1 j).f5.f1, .int .u64 (rd_T54 l1 j).f5.f2, .int .i64 (rd_T54 l1 j).f5.f3, .int .i64 (rd_T54 l1 j).f6.f0, .bool (rd_T54 l1 j).f6.f1, .int .u64 (rd_T54 l1 j).f6.f2, .slice A12 (rd_T54 l1 j).f6.f3.length c12] 54 (0, 0)))
            have n_ := Aside0.mk (blk_alloc (g := gc) (o := .cells #[.int .i64 t, .int .i64 b, .int .i64 i, .int .i64 f, .int .i64 c] 23 (0, 0)) BKgc.out (.cells #[.int .i64 (rd_T54 l1 j).f0, .int .i64 (rd_T54 l1 j).f1, .int .i64 (rd_T54 l1 j).f2, .int .i64 (rd_T54 l1 j).f3, .int .i64 (rd_T54 l1 j).f4, .int .i64 (rd_T54 l1 j).f5.f0, .int .u64 (rd_T54 l1 j).f5.f1, .int .u64 (rd_T54 l1 j).f5.f2, .int .i64 (rd_T54 l1 j).f5.f3, .int .i64 (rd_T54 l1 j).f6.f0, .bool (rd_T54 l1 j).f6.f1, .int .u64 (rd_T54 l1 j).f6.f2, .slice A12 (rd_T54 l1 j).f6.f3.length c12] 54 (0, 0)))
            clear BKgc
            have BKgc := n_
            clear n_
            have n_ := Aside0.mk (below_alloc HB.out (.cells #[.int .i64 (rd_T54 l1 j).f0, .int .i64 (rd_T54 l1 j).f1, .int .i64 (rd_T54 l1 j).f2, .int .i64 (rd_T54 l1 j).f3, .int .i64 (rd_T54 l1 j).f4, .int .i64 (rd_T54 l1 j).f5.f0, .int .u64 (rd_T54 l1 j).f5.f1, .int .u64 (rd_T54 l1 j).f5.f2, .int .i64 (rd_T54 l1 j).f5.f3, .int .i64 (rd_T54 l1 j).f6.f0, .bool (rd_T54 l1 j).f6.f1, .int .u64 (rd_T54 l1 j).f6.f2, .slice A12 (rd_T54 l1 j).f6.f3.length c12] 54 (0, 0)))
            clear HB
            have HB := n_
            clear n_
            have n_BKge := Aside0.mk (blk_drew (g := wr.heap.size) (o := .cells #[.int .i64 (rd_T54 l1 j).f0, .int .i64 (rd_T54 l1 j).f1, .int .i64 (rd_T54 l1 j).f2, .int .i64 (rd_T54 l1 j).f3, .int .i64 (rd_T54 l1 j).f4, .int .i64 (rd_T54 l1 j).f5.f0, .int .u64 (rd_T54 l1 j).f5.f1, .int .u64 (rd_T54 l1 j).f5.f2, .int .i64 (rd_T54 l1 j).f5.f3, .int .i64 (rd_T54 l1 j).f6.f0, .bool (rd_T54 l1 j).f6.f1, .int .u64 (rd_T54 l1 j).f6.f2, .slice A12 (rd_T54 l1 j).f6.f3.length c12] 54 (0, 0)) BKge.out)
            clear BKge
            have BKge := n_BKge
            clear n_BKge
            have n_BKgc := Aside0.mk (blk_drew (g := gc) (o := .cells #[.int .i64 t, .int .i64 b, .int .i64 i, .int .i64 f, .int .i64 c] 23 (0, 0)) BKgc.out)
            clear BKgc
            have BKgc := n_BKgc
            clear n_BKgc
            have n1_ := Aside0.mk (below_drew1 HB.out)
            clear HB
            have HB := n1_
            clear n1_
            refine start_ (n := 7) (S := fun w' => w'.cell? ⟨wr.heap.size, 0, none⟩ = some (.int .i64 (rd_T54 l1 j).f0) ∧ w'.cell? ⟨wr.heap.size, 1, none⟩ = some (.int .i64 (rd_T54 l1 j).f1) ∧ w'.cell? ⟨wr.heap.size, 2, none⟩ = some (.int .i64 (rd_T54 l1 j).f2) ∧ w'.cell? ⟨wr.heap.size, 3, none⟩ = some (.int .i64 (rd_T54 l1 j).f3) ∧ w'.cell? ⟨wr.heap.size, 4, none⟩ = some (.int .i64 (rd_T54 l1 j).f4) ∧ w'.cell? ⟨wr.heap.size, 5, none⟩ = some (.int .i64 (rd_T54 l1 j).f5.f0) ∧ w'.cell? ⟨wr.heap.size, 6, none⟩ = some (.int .u64 (rd_T54 l1 j).f5.f1) ∧ w'.cell? ⟨wr.heap.size, 7, none⟩ = some (.int .u64 (rd_T54 l1 j).f5.f2) ∧ w'.cell? ⟨wr.heap.size, 8, none⟩ = some (.int .i64 (rd_T54 l1 j).f5.f3) ∧ w'.cell? ⟨wr.heap.size, 9, none⟩ = some (.int .i64 (rd_T54 l1 j).f6.f0) ∧ w'.cell? ⟨wr.heap.size, 10, none⟩ = some (.bool (rd_T54 l1 j).f6.f1) ∧ w'.cell? ⟨wr.heap.size, 11, none⟩ = some (.int .u64 (rd_T54 l1 j).f6.f2) ∧ w'.cell? ⟨wr.heap.size, 12, none⟩ = some (.slice A12 (rd_T54 l1 j).f6.f3.length c12) ∧ w'.cell? ⟨gc, 0, none⟩ = some (.int .i64 t) ∧ w'.cell? ⟨gc, 1, none⟩ = some (.int .i64 b) ∧ w'.cell? ⟨gc, 2, none⟩ = some (.int .i64 i) ∧ w'.cell? ⟨gc, 3, none⟩ = some (.int .i64 f) ∧ w'.cell? ⟨gc, 4, none⟩ = some (.int .i64 c)) (ds := []) #[false, false, false, false, false, false, false] (by kernel_rfl) rfl rfl ⟨(blk_cell BKge.out 0).trans rfl, (blk_cell BKge.out 1).trans rfl, (blk_cell BKge.out 2).trans rfl, (blk_cell BKge.out 3).trans rfl, (blk_cell BKge.out 4).trans rfl, (blk_cell BKge.out 5).trans rfl, (blk_cell BKge.out 6).trans rfl, (blk_cell BKge.out 7).trans rfl, (blk_cell BKge.out 8).trans rfl, (blk_cell BKge.out 9).trans rfl, (blk_cell BKge.out 10).trans rfl, (blk_cell BKge.out 11).trans rfl, (blk_cell BKge.out 12).trans rfl, (blk_cell BKgc.out 0).trans rfl, (blk_cell BKgc.out 1).trans rfl, (blk_cell BKgc.out 2).trans rfl, (blk_cell BKgc.out 3).trans rfl, (blk_cell BKgc.out 4).trans rfl⟩ (fun hHeld => ?_); refine with_tabW bound_Ok.tab4 bound_Ok.bits4 (fun HT_ HW_ => ?_)
            generalize (wr.alloc (.cells #[.int .i64 (rd_T54 l1 j).f0, .int .i64 (rd_T54 l1 j).f1, .int .i64 (rd_T54 l1 j).f2, .int .i64 (rd_T54 l1 j).f3, .int .i64 (rd_T54 l1 j).f4, .int .i64 (rd_T54 l1 j).f5.f0, .int .u64 (rd_T54 l1 j).f5.f1, .int .u64 (rd_T54 l1 j).f5.f2, .int .i64 (rd_T54 l1 j).f5.f3, .int .i64 (rd_T54 l1 j).f6.f0, .bool (rd_T54 l1 j).f6.f1, .int .u64 (rd_T54 l1 j).f6.f2, .slice A12 (rd_T54 l1 j).f6.f3.length c12] 54 (0, 0))).drew = W1 at BKge BKgc HB hHeld ⊢
            refine pure_ (i := 0) (N := some 13) (v := ?_) (a' := ?_) #[true, false, false, false, false, false, false] rfl rfl (any_of HT_.out (by kernel_rfl)) (fun _ _ _ h => h) (Or.inl ⟨by rfl, ?_⟩) ?_ ?_
            rotate_left
            · intro w'
              go_simp
              with_reducible rfl
            rotate_left
            · simp only [Act.put, List.setIfInBounds_toArray, List.set_cons_zero, List.set_cons_succ, i64_w]
              rfl
            refine take_ (i := 1) (N := some 14) (v := ?_) (a' := ?_) #[true, true, false, false, false, false, false] rfl rfl (take_ofW HT_.out HW_.out (by kernel_rfl)) (fun _ _ _ h => h) (Or.inl ⟨by rfl, ?_⟩) hHeld ?_ ?_
            rotate_left
            · rintro w' ⟨s0, s1, s2, s3, s4, s5, s6, s7, s8, s9, s10, s11, s12, s13, s14, s15, s16, s17⟩
              go_simp
              with_reducible rfl
            rotate_left
            · simp only [Act.put, List.setIfInBounds_toArray, List.set_cons_zero, List.set_cons_succ, i64_w]
              rfl
            refine take_ (i := 2) (N := some 15) (v := ?_) (a' := ?_) #[true, true, true, false, false, false, false] rfl rfl (take_ofW HT_.out HW_.out (by kernel_rfl)) (fun _ _ _ h => h) (Or.inl ⟨by rfl, ?_⟩) hHeld ?_ ?_
            rotate_left
            · rintro w' ⟨s0, s1, s2, s3, s4, s5, s6, s7, s8, s9, s10, s11, s12, s13, s14, s15, s16, s17⟩
              go_simp
              with_reducible rfl
            rotate_left
            · simp only [Act.put, List.setIfInBounds_toArray, List.set_cons_zero, List.set_cons_succ, i64_w]
              rfl
            refine pure_ (i := 3) (N := some 16) (v := ?_) (a' := ?_) #[true, true, true, true, false, false, false] rfl rfl (any_of HT_.out (by kernel_rfl)) (fun _ _ _ h => h) (Or.inl ⟨by rfl, ?_⟩) ?_ ?_
            rotate_left
            · intro w'
              go_simp
              with_reducible rfl
            rotate_left
            · simp only [Act.put, List.setIfInBounds_toArray, List.set_cons_zero, List.set_cons_succ, i64_w]
              rfl
            refine take_ (i := 4) (N := some 17) (v := ?_) (a' := ?_) #[true, true, true, true, true, false, false] rfl rfl (take_ofW HT_.out HW_.out (by kernel_rfl)) (fun _ _ _ h => h) (Or.inl ⟨by rfl, ?_⟩) hHeld ?_ ?_
            rotate_left
            · rintro w' ⟨s0, s1, s2, s3, s4, s5, s6, s7, s8, s9, s10, s11, s12, s13, s14, s15, s16, s17⟩
              go_simp
              with_reducible rfl
            rotate_left
            · simp only [Act.put, List.setIfInBounds_toArray, List.set_cons_zero, List.set_cons_succ, i64_w]
              rfl
            refine one_ (i := 5) (N := some 18) #[true, true, true, true, true, true, false] rfl rfl (one_of HT_.out (by kernel_rfl)) (by decide) (fun K hK => ?_)
            refine goes_ Try.func11 (by kernel_rfl) rfl #[.agg #[.int .i64 t, .int .i64 b, .int .i64 i, .int .i64 f, .int .i64 c], .slice (some ad) l1.length c1, .agg #[.int .i64 (rd_T54 l1 j).f0, .int .i64 (rd_T54 l1 j).f1, .int .i64 (rd_T54 l1 j).f2, .int .i64 (rd_T54 l1 j).f3, .int .i64 (rd_T54 l1 j).f4, .int .i64 (rd_T54 l1 j).f5.f0, .int .u64 (rd_T54 l1 j).f5.f1, .int .u64 (rd_T54 l1 j).f5.f2, .int .i64 (rd_T54 l1 j).f5.f3, .int .i64 (rd_T54 l1 j).f6.f0, .bool (rd_T54 l1 j).f6.f1, .int .u64 (rd_T54 l1 j).f6.f2, .slice A12 (rd_T54 l1 j).f6.f3.length c12]] (by rfl) rfl rfl (by (try simp only [List.map_toArray, List.map_cons, List.map_nil]); first | done | rfl) ?_
            with_reducible refine (bound_Of.law k1 t b i f c (some ad) c1 l1 (rd_T54 l1 j) A12 c12 q _ (bof_up HR1.out HB.out) HC1.out Hq.out).mono ?_
            rintro e w2 ⟨rfl, hb⟩
            refine ⟨_, rfl, ?_⟩
            have n_BKge := Aside0.mk (blk_below (g := wr.heap.size) (o := .cells #[.int .i64 (rd_T54 l1 j).f0, .int .i64 (rd_T54 l1 j).f1, .int .i64 (rd_T54 l1 j).f2, .int .i64 (rd_T54 l1 j).f3, .int .i64 (rd_T54 l1 j).f4, .int .i64 (rd_T54 l1 j).f5.f0, .int .u64 (rd_T54 l1 j).f5.f1, .int .u64 (rd_T54 l1 j).f5.f2, .int .i64 (rd_T54 l1 j).f5.f3, .int .i64 (rd_T54 l1 j).f6.f0, .bool (rd_T54 l1 j).f6.f1, .int .u64 (rd_T54 l1 j).f6.f2, .slice A12 (rd_T54 l1 j).f6.f3.length c12] 54 (0, 0)) BKge.out hb)
            clear BKge
            have BKge := n_BKge
            clear n_BKge
            have n_BKgc := Aside0.mk (blk_below (g := gc) (o := .cells #[.int .i64 t, .int .i64 b, .int .i64 i, .int .i64 f, .int .i64 c] 23 (0, 0)) BKgc.out hb)
            clear BKgc
            have BKgc := n_BKgc
            clear n_BKgc
            have n1_ := Aside0.mk (below_step HB.out hb)
            clear HB hb
            have HB := n1_
            clear n1_
            refine hK.out _ _ ⟨(blk_cell BKge.out 0).trans rfl, (blk_cell BKge.out 1).trans rfl, (blk_cell BKge.out 2).trans rfl, (blk_cell BKge.out 3).trans rfl, (blk_cell BKge.out 4).trans rfl, (blk_cell BKge.out 5).trans rfl, (blk_cell BKge.out 6).trans rfl, (blk_cell BKge.out 7).trans rfl, (blk_cell BKge.out 8).trans rfl, (blk_cell BKge.out 9).trans rfl, (blk_cell BKge.out 10).trans rfl, (blk_cell BKge.out 11).trans rfl, (blk_cell BKge.out 12).trans rfl, (blk_cell BKgc.out 0).trans rfl, (blk_cell BKgc.out 1).trans rfl, (blk_cell BKgc.out 2).trans rfl, (blk_cell BKgc.out 3).trans rfl, (blk_cell BKgc.out 4).trans rfl⟩ (fun hHeld => ?_)
            clear hK K
            refine norm_ (a' := ?_) ?_ ?_
            rotate_left
            · show Act.put _ (some 18) _ = _
              simp only [Act.put, List.setIfInBounds_toArray, List.set_cons_zero, List.set_cons_succ, i64_w]
              rfl
            refine pure_ (i := 6) (N := some 19) (v := ?_) (a' := ?_) #[true, true, true, true, true, true, true] rfl rfl (any_of HT_.out (by kernel_rfl)) (fun _ _ _ h => h) (Or.inl ⟨by rfl, ?_⟩) ?_ ?_
            rotate_left
            · intro w'
              go_simp
              with_reducible rfl
            rotate_left
            · simp only [Act.put, List.setIfInBounds_toArray, List.set_cons_zero, List.set_cons_succ, i64_w]
              rfl
            refine done_ (done_of HT_.out (by kernel_rfl)) ?_
            go_wp2
            go_roundg k1
            case measure => have := HK1.out; omega
            case rel => exact ⟨wrap64 (j + 1), (by first | rfl | (simp; done) | (simp [*]; done)), H', ⟨by have := HK1.out; omega⟩, ⟨by (with_reducible repeat (first | refine blk_drewN ?_ _ | refine blk_drew ?_ | refine blk_alloc ?_ _)); exact BKgc.out⟩, ⟨by repeat (first | (with_reducible first | exact HB.out | apply below_alloc | apply pw_below_drewN | apply below_drew1) | exact HB.out)⟩⟩
        · rw [if_neg c5] at H
          exact absurd H (by simp)
      · rw [if_neg c4] at H
        have c4b0 : decide (j < (l1.length : Int)) = false := decide_eq_false c4
        clear c4
        obtain rfl := Option.some.inj H
        clear H
        go_wp2
        go_ret
        exact ⟨by first | rfl | (simp [*]; done), by repeat (first | (with_reducible first | exact HB.out | apply below_alloc | apply pw_below_drewN | apply below_drew1) | exact HB.out)⟩
theorem bound_Ok.calls (k : Nat) (a0_0 : Int) (a0_1 : Int) (a0_2 : Int) (a0_3 : Int) (a0_4 : Int) (A1 : Option Addr) (c1 : Nat) (l1 : List S54) (r : Bool) (w : World) (hr1 : Kd.C k54 w A1 l1.length l1) (hc1 : l1.length ≤ c1) (h : bound_Ok.f k a0_0 a0_1 a0_2 a0_3 a0_4 l1 = some r) :
    Calls Try.prog 8 #[.agg #[.int .i64 a0_0, .int .i64 a0_1, .int .i64 a0_2, .int .i64 a0_3, .int .i64 a0_4], .slice A1 l1.length c1] w fun e w' => e = .returned (.bool r) ∧ Below w.heap.size w w' :=
  bound_Ok.law k a0_0 a0_1 a0_2 a0_3 a0_4 A1 c1 l1 r w hr1 hc1 h
end Go.Proofs.Ytbhakljebcmocaa.PBoundKeeps
end
section
namespace Go.Proofs.Ytbhakljebcmocaa.PBoundKeeps
open Go.RowKit Go.Proofs.YtbhakljebcmocaaW.PrintWords Go.Proofs.YtbhakljebcmocaaW.PrintLast Go.Proofs.YtbhakljebcmocaaW.PrintMore
set_option linter.unusedVariables false
set_option linter.unusedSimpArgs false
theorem evC1 {W : World} {g : Nat} {x : S54} {A : Option Addr} {c : Nat} (hl : x.f6.f3.length ≤ c) (hr : Kd.C k129 W A x.f6.f3.length x.f6.f3) (hg : W.heap[g]? = some (.cells #[.int .i64 x.f0, .int .i64 x.f1, .int .i64 x.f2, .int .i64 x.f3, .int .i64 x.f4, .int .i64 x.f5.f0, .int .u64 x.f5.f1, .int .u64 x.f5.f2, .int .i64 x.f5.f3, .int .i64 x.f6.f0, .bool x.f6.f1, .int .u64 x.f6.f2, .slice A x.f6.f3.length c] 54 (0, 0))) : Kd.C k54 W (some ⟨g, 0, none⟩) 1 [x] := by
 refine ⟨rfl, by decide, fun _ => ⟨_, rfl, fun j p hj => ?_⟩⟩
 cases j with
 | succ j => simp at hj
 | zero =>
  simp at hj
  subst hj
  refine ⟨_, rfl, k54_mk W x hl hr, fun i u hu => ?_⟩
  have h : W.cell? ⟨g, i, none⟩ = (#[.int .i64 x.f0, .int .i64 x.f1, .int .i64 x.f2, .int .i64 x.f3, .int .i64 x.f4, .int .i64 x.f5.f0, .int .u64 x.f5.f1, .int .u64 x.f5.f2, .int .i64 x.f5.f3, .int .i64 x.f6.f0, .bool x.f6.f1, .int .u64 x.f6.f2, .slice A x.f6.f3.length c] : Array Value)[i]? := blk_cell hg i
  rw [show (⟨g, 0, none⟩ : Addr).add (0 * k54.sz + i) = ⟨g, i, none⟩ from by first | (simp [Addr.add]; done) | (simp [Addr.add]; intro h0; exact h0.symm)]
  rw [h]
  simpa using hu
def corrielaw23_awake.T3 : Bool × List (List Nat × List Nat) := (true, [([], []), ([0], [0]), ([1], [1]), ([2, 1], [2]), ([3], [3]), ([4, 3, 3], [3, 4]), ([5, 3], [3, 5]), ([3, 6], [3, 6]), ([7, 5], [7]), ([8], [8]), ([8], [8]), ([8], [8]), ([11, 8], [8, 11]), ([12, 8], [8, 12]), ([9, 10, 13, 8, 8], [8, 9, 10, 13]), ([14, 8], [8, 14]), ([8, 15], [8, 15]), ([16, 14], [16]), ([17], [17]), ([17], [17]), ([18, 19, 17, 17], [17, 18, 19]), ([20, 17], [17, 20]), ([17, 21], [17, 21]), ([22, 20], [22]), ([23], [23]), ([24, 23, 23], [23, 24]), ([23, 25], [23, 25]), ([26, 25, 0, 1, 2, 3, 4, 5, 6, 7, 8, 9, 10, 11, 12, 13, 14, 15, 16, 17, 18, 19, 20, 21, 22, 23, 24, 25, 26], [26])])
def corrielaw23_awake.B3 : List Nat := [0, 1, 3, 7, 15, 31, 63, 127, 255, 511, 511, 511, 2559, 6655, 16383, 32767, 65535, 131071, 262143, 262143, 1048575, 2097151, 4194303, 8388607, 16777215, 33554431, 67108863, 134217727]
theorem corrielaw23_awake.tab3 : rtab .any (opsOf Try.f4 3) = corrielaw23_awake.T3 := by kernel_rfl
theorem corrielaw23_awake.bits3 : waitsOk corrielaw23_awake.T3.2 corrielaw23_awake.B3 = true := by kernel_rfl
def corrielaw23_awake.f : Option Bool := some true
set_option maxHeartbeats 8000000 in
set_option maxRecDepth 100000 in
theorem corrielaw23_awake.calls (r : Bool) (w : World) (h : corrielaw23_awake.f = some r) :
    Calls Try.prog 4 #[] w fun e w' => e = .returned (.bool r) ∧ Below w.heap.size w w' := by
  obtain rfl := Option.some.inj h
  clear h
  have HP := Aside0.mk (show ∀ W : World, Calls Try.prog 9 #[.agg #[.int .i64 1, .int .i64 1, .int .i64 0, .int .i64 0, .int .i64 1], .int .i64 0, .int .i64 0] W (fun e w' => e = .returned (.int .i64 65536) ∧ Below W.heap.size W w') from fun W => bound_Point.calls 20 1 1 0 0 1 0 0 65536 W (by decide +kernel))
  have HS := Aside0.mk (show ∀ W : World, Calls Try.prog 10 #[.agg #[.int .i64 1, .int .i64 1, .int .i64 0, .int .i64 0, .int .i64 1], .int .i64 0, .int .i64 0] W (fun e w' => e = .returned (.int .i64 192) ∧ Below W.heap.size W w') from fun W => bound_Scan.calls 20 1 1 0 0 1 0 0 192 W (by decide +kernel))
  have HO := Aside0.mk (show ∀ W : World, Kd.C k54 W (some ⟨w.heap.size + 1, 0, none⟩) 1 [(⟨0, 0, 0, 9, 300, ⟨4, 0, 0, 0⟩, ⟨0, false, 0, []⟩⟩ : S54)] → Calls Try.prog 11 #[.agg #[.int .i64 1, .int .i64 1, .int .i64 0, .int .i64 0, .int .i64 1], .slice (some ⟨w.heap.size + 1, 0, none⟩) 1 1, .agg #[.int .i64 0, .int .i64 0, .int .i64 0, .int .i64 9, .int .i64 300, .int .i64 4, .int .u64 0, .int .u64 0, .int .i64 0, .int .i64 0, .bool false, .int .u64 0, .slice none 0 0]] W (fun e w' => e = .returned (.int .i64 256) ∧ Below W.heap.size W w') from fun W hC => bound_Of.law 20 1 1 0 0 1 _ 1 [(⟨0, 0, 0, 9, 300, ⟨4, 0, 0, 0⟩, ⟨0, false, 0, []⟩⟩ : S54)] (⟨0, 0, 0, 9, 300, ⟨4, 0, 0, 0⟩, ⟨0, false, 0, []⟩⟩ : S54) none 0 256 W hC (by decide) (by decide +kernel))
  have HK := Aside0.mk (show ∀ W : World, Kd.C k54 W (some ⟨w.heap.size + 1, 0, none⟩) 1 [(⟨0, 0, 0, 9, 300, ⟨4, 0, 0, 0⟩, ⟨0, false, 0, []⟩⟩ : S54)] → Calls Try.prog 8 #[.agg #[.int .i64 1, .int .i64 1, .int .i64 0, .int .i64 0, .int .i64 1], .slice (some ⟨w.heap.size + 1, 0, none⟩) 1 1] W (fun e w' => e = .returned (.bool false) ∧ Below W.heap.size W w') from fun W hC => bound_Ok.law 20 1 1 0 0 1 _ 1 [(⟨0, 0, 0, 9, 300, ⟨4, 0, 0, 0⟩, ⟨0, false, 0, []⟩⟩ : S54)] false W hC (by decide) (by decide +kernel))
  have HN := Aside0.mk (show ∀ W : World, Calls Try.prog 8 #[.agg #[.int .i64 1, .int .i64 1, .int .i64 0, .int .i64 0, .int .i64 1], .slice none 0 0] W (fun e w' => e = .returned (.bool true) ∧ Below W.heap.size W w') from fun W => bound_Ok.law 20 1 1 0 0 1 none 0 [] true W (Kd.C_nil _ _) (by decide) (by decide +kernel))
  go_enter Try.func4, Try.ntmps4
  go_wp2_with (fail)
  have BKgc := Aside0.mk (blk_alloc (blk_new w (.cells #[.int .i64 1, .int .i64 1, .int .i64 0, .int .i64 0, .int .i64 1] 23)) (.cells #[.int .i64 0, .int .i64 0, .int .i64 0, .int .i64 9, .int .i64 300, .int .i64 4, .int .u64 0, .int .u64 0, .int .i64 0, .int .i64 0, .bool false, .int .u64 0, .slice none 0 0] 54))
  have BKgh := Aside0.mk (show ((w.alloc (.cells #[.int .i64 1, .int .i64 1, .int .i64 0, .int .i64 0, .int .i64 1] 23)).alloc (.cells #[.int .i64 0, .int .i64 0, .int .i64 0, .int .i64 9, .int .i64 300, .int .i64 4, .int .u64 0, .int .u64 0, .int .i64 0, .int .i64 0, .bool false, .int .u64 0, .slice none 0 0] 54)).heap[w.heap.size + 1]? = some (.cells #[.int .i64 0, .int .i64 0, .int .i64 0, .int .i64 9, .int .i64 300, .int .i64 4, .int .u64 0, .int .u64 0, .int .i64 0, .int .i64 0, .bool false, .int .u64 0, .slice none 0 0] 54) from by simpa using blk_new (w.alloc (.cells #[.int .i64 1, .int .i64 1, .int .i64 0, .int .i64 0, .int .i64 1] 23)) (.cells #[.int .i64 0, .int .i64 0, .int .i64 0, .int .i64 9, .int .i64 300, .int .i64 4, .int .u64 0, .int .u64 0, .int .i64 0, .int .i64 0, .bool false, .int .u64 0, .slice none 0 0] 54))
  have HB := Aside0.mk (below_alloc (below_alloc (Below.refl w.heap.size w) (.cells #[.int .i64 1, .int .i64 1, .int .i64 0, .int .i64 0, .int .i64 1] 23)) (.cells #[.int .i64 0, .int .i64 0, .int .i64 0, .int .i64 9, .int .i64 300, .int .i64 4, .int .u64 0, .int .u64 0, .int .i64 0, .int .i64 0, .bool false, .int .u64 0, .slice none 0 0] 54))
  have n_BKgc := Aside0.mk (blk_drew (g := w.heap.size) (o := .cells #[.int .i64 1, .int .i64 1, .int .i64 0, .int .i64 0, .int .i64 1] 23 (0, 0)) BKgc.out)
  clear BKgc
  have BKgc := n_BKgc
  clear n_BKgc
  have n_BKgh := Aside0.mk (blk_drew (g := (w.heap.size + 1)) (o := .cells #[.int .i64 0, .int .i64 0, .int .i64 0, .int .i64 9, .int .i64 300, .int .i64 4, .int .u64 0, .int .u64 0, .int .i64 0, .int .i64 0, .bool false, .int .u64 0, .slice none 0 0] 54 (0, 0)) BKgh.out)
  clear BKgh
  have BKgh := n_BKgh
  clear n_BKgh
  have n1_ := Aside0.mk (below_drew1 HB.out)
  clear HB
  have HB := n1_
  clear n1_
  refine start_ (n := 28) (S := fun w' => w'.cell? ⟨w.heap.size, 0, none⟩ = some (.int .i64 1) ∧ w'.cell? ⟨w.heap.size, 1, none⟩ = some (.int .i64 1) ∧ w'.cell? ⟨w.heap.size, 2, none⟩ = some (.int .i64 0) ∧ w'.cell? ⟨w.heap.size, 3, none⟩ = some (.int .i64 0) ∧ w'.cell? ⟨w.heap.size, 4, none⟩ = some (.int .i64 1) ∧ w'.cell? ⟨(w.heap.size + 1), 0, none⟩ = some (.int .i64 0) ∧ w'.cell? ⟨(w.heap.size + 1), 1, none⟩ = some (.int .i64 0) ∧ w'.cell? ⟨(w.heap.size + 1), 2, none⟩ = some (.int .i64 0) ∧ w'.cell? ⟨(w.heap.size + 1), 3, none⟩ = some (.int .i64 9) ∧ w'.cell? ⟨(w.heap.size + 1), 4, none⟩ = some (.int .i64 300) ∧ w'.cell? ⟨(w.heap.size + 1), 5, none⟩ = some (.int .i64 4) ∧ w'.cell? ⟨(w.heap.size + 1), 6, none⟩ = some (.int .u64 0) ∧ w'.cell? ⟨(w.heap.size + 1), 7, none⟩ = some (.int .u64 0) ∧ w'.cell? ⟨(w.heap.size + 1), 8, none⟩ = some (.int .i64 0) ∧ w'.cell? ⟨(w.heap.size + 1), 9, none⟩ = some (.int .i64 0) ∧ w'.cell? ⟨(w.heap.size + 1), 10, none⟩ = some (.bool false) ∧ w'.cell? ⟨(w.heap.size + 1), 11, none⟩ = some (.int .u64 0) ∧ w'.cell? ⟨(w.heap.size + 1), 12, none⟩ = some (.slice none 0 0)) (ds := []) #[false, false, false, false, false, false, false, false, false, false, false, false, false, false, false, false, false, false, false, false, false, false, false, false, false, false, false, false] (by kernel_rfl) rfl rfl ⟨(blk_cell BKgc.out 0).trans rfl, (blk_cell BKgc.out 1).trans rfl, (blk_cell BKgc.out 2).trans rfl, (blk_cell BKgc.out 3).trans rfl, (blk_cell BKgc.out 4).trans rfl, (blk_cell BKgh.out 0).trans rfl, (blk_cell BKgh.out 1).trans rfl, (blk_cell BKgh.out 2).trans rfl, (blk_cell BKgh.out 3).trans rfl, (blk_cell BKgh.out 4).trans rfl, (blk_cell BKgh.out 5).trans rfl, (blk_cell BKgh.out 6).trans rfl, (blk_cell BKgh.out 7).trans rfl, (blk_cell BKgh.out 8).trans rfl, (blk_cell BKgh.out 9).trans rfl, (blk_cell BKgh.out 10).trans rfl, (blk_cell BKgh.out 11).trans rfl, (blk_cell BKgh.out 12).trans rfl⟩ (fun hHeld => ?_); refine with_tabW corrielaw23_awake.tab3 corrielaw23_awake.bits3 (fun HT_ HW_ => ?_)
  generalize ((w.alloc (.cells #[.int .i64 1, .int .i64 1, .int .i64 0, .int .i64 0, .int .i64 1] 23)).alloc (.cells #[.int .i64 0, .int .i64 0, .int .i64 0, .int .i64 9, .int .i64 300, .int .i64 4, .int .u64 0, .int .u64 0, .int .i64 0, .int .i64 0, .bool false, .int .u64 0, .slice none 0 0] 54)).drew = W1 at BKgc BKgh HB hHeld ⊢
  refine take_ (i := 0) (N := some 7) (v := ?_) (a' := ?_) #[true, false, false, false, false, false, false, false, false, false, false, false, false, false, false, false, false, false, false, false, false, false, false, false, false, false, false, false] rfl rfl (take_ofW HT_.out HW_.out (by kernel_rfl)) (fun _ _ _ h => h) (Or.inl ⟨by rfl, ?_⟩) hHeld ?_ ?_
  rotate_left
  · rintro w' ⟨s0, s1, s2, s3, s4, s5, s6, s7, s8, s9, s10, s11, s12, s13, s14, s15, s16, s17⟩
    go_simp
    with_reducible rfl
  rotate_left
  · simp only [Act.put, List.setIfInBounds_toArray, List.set_cons_zero, List.set_cons_succ, i64_w]
    rfl
  refine one_ (i := 1) (N := some 8) #[true, true, false, false, false, false, false, false, false, false, false, false, false, false, false, false, false, false, false, false, false, false, false, false, false, false, false, false] rfl rfl (one_of HT_.out (by kernel_rfl)) (by decide) (fun K hK => ?_)
  refine goes_ Try.func9 (by kernel_rfl) rfl #[.agg #[.int .i64 1, .int .i64 1, .int .i64 0, .int .i64 0, .int .i64 1], .int .i64 0, .int .i64 0] (by rfl) rfl rfl (by (try simp only [List.map_toArray, List.map_cons, List.map_nil]); first | done | rfl) ?_
  with_reducible refine (HP.out _).mono ?_
  rintro e w1 ⟨rfl, hb⟩
  refine ⟨_, rfl, ?_⟩
  have n_BKgc := Aside0.mk (blk_below (g := w.heap.size) (o := .cells #[.int .i64 1, .int .i64 1, .int .i64 0, .int .i64 0, .int .i64 1] 23 (0, 0)) BKgc.out hb)
  clear BKgc
  have BKgc := n_BKgc
  clear n_BKgc
  have n_BKgh := Aside0.mk (blk_below (g := (w.heap.size + 1)) (o := .cells #[.int .i64 0, .int .i64 0, .int .i64 0, .int .i64 9, .int .i64 300, .int .i64 4, .int .u64 0, .int .u64 0, .int .i64 0, .int .i64 0, .bool false, .int .u64 0, .slice none 0 0] 54 (0, 0)) BKgh.out hb)
  clear BKgh
  have BKgh := n_BKgh
  clear n_BKgh
  have n1_ := Aside0.mk (below_step HB.out hb)
  clear HB hb
  have HB := n1_
  clear n1_
  refine hK.out _ _ ⟨(blk_cell BKgc.out 0).trans rfl, (blk_cell BKgc.out 1).trans rfl, (blk_cell BKgc.out 2).trans rfl, (blk_cell BKgc.out 3).trans rfl, (blk_cell BKgc.out 4).trans rfl, (blk_cell BKgh.out 0).trans rfl, (blk_cell BKgh.out 1).trans rfl, (blk_cell BKgh.out 2).trans rfl, (blk_cell BKgh.out 3).trans rfl, (blk_cell BKgh.out 4).trans rfl, (blk_cell BKgh.out 5).trans rfl, (blk_cell BKgh.out 6).trans rfl, (blk_cell BKgh.out 7).trans rfl, (blk_cell BKgh.out 8).trans rfl, (blk_cell BKgh.out 9).trans rfl, (blk_cell BKgh.out 10).trans rfl, (blk_cell BKgh.out 11).trans rfl, (blk_cell BKgh.out 12).trans rfl⟩ (fun hHeld => ?_)
  clear hK K
  refine norm_ (a' := ?_) ?_ ?_
  rotate_left
  · show Act.put _ (some 8) _ = _
    simp only [Act.put, List.setIfInBounds_toArray, List.set_cons_zero, List.set_cons_succ, i64_w]
    rfl
  refine pure_ (i := 2) (N := some 9) (v := ?_) (a' := ?_) #[true, true, true, false, false, false, false, false, false, false, false, false, false, false, false, false, false, false, false, false, false, false, false, false, false, false, false, false] rfl rfl (any_of HT_.out (by kernel_rfl)) (fun _ _ _ h => h) (Or.inl ⟨by rfl, ?_⟩) ?_ ?_
  rotate_left
  · intro w'
    go_simp
    with_reducible rfl
  rotate_left
  · simp only [Act.put, List.setIfInBounds_toArray, List.set_cons_zero, List.set_cons_succ, i64_w]
    rfl
  refine pure_ (i := 3) (N := some 10) (v := ?_) (a' := ?_) #[true, true, true, true, false, false, false, false, false, false, false, false, false, false, false, false, false, false, false, false, false, false, false, false, false, false, false, false] rfl rfl (any_of HT_.out (by kernel_rfl)) (fun _ _ _ h => h) (Or.inl ⟨by rfl, ?_⟩) ?_ ?_
  rotate_left
  · intro w'
    go_simp
    with_reducible rfl
  rotate_left
  · simp only [Act.put, List.setIfInBounds_toArray, List.set_cons_zero, List.set_cons_succ, i64_w]
    rfl
  refine take_ (i := 4) (N := some 11) (v := ?_) (a' := ?_) #[true, true, true, true, true, false, false, false, false, false, false, false, false, false, false, false, false, false, false, false, false, false, false, false, false, false, false, false] rfl rfl (take_ofW HT_.out HW_.out (by kernel_rfl)) (fun _ _ _ h => h) (Or.inl ⟨by rfl, ?_⟩) hHeld ?_ ?_
  rotate_left
  · rintro w' ⟨s0, s1, s2, s3, s4, s5, s6, s7, s8, s9, s10, s11, s12, s13, s14, s15, s16, s17⟩
    go_simp
    with_reducible rfl
  rotate_left
  · simp only [Act.put, List.setIfInBounds_toArray, List.set_cons_zero, List.set_cons_succ, i64_w]
    rfl
  refine one_ (i := 5) (N := some 12) #[true, true, true, true, true, true, false, false, false, false, false, false, false, false, false, false, false, false, false, false, false, false, false, false, false, false, false, false] rfl rfl (one_of HT_.out (by kernel_rfl)) (by decide) (fun K hK => ?_)
  refine goes_ Try.func10 (by kernel_rfl) rfl #[.agg #[.int .i64 1, .int .i64 1, .int .i64 0, .int .i64 0, .int .i64 1], .int .i64 0, .int .i64 0] (by rfl) rfl rfl (by (try simp only [List.map_toArray, List.map_cons, List.map_nil]); first | done | rfl) ?_
  with_reducible refine (HS.out _).mono ?_
  rintro e w2 ⟨rfl, hb⟩
  refine ⟨_, rfl, ?_⟩
  have n_BKgc := Aside0.mk (blk_below (g := w.heap.size) (o := .cells #[.int .i64 1, .int .i64 1, .int .i64 0, .int .i64 0, .int .i64 1] 23 (0, 0)) BKgc.out hb)
  clear BKgc
  have BKgc := n_BKgc
  clear n_BKgc
  have n_BKgh := Aside0.mk (blk_below (g := (w.heap.size + 1)) (o := .cells #[.int .i64 0, .int .i64 0, .int .i64 0, .int .i64 9, .int .i64 300, .int .i64 4, .int .u64 0, .int .u64 0, .int .i64 0, .int .i64 0, .bool false, .int .u64 0, .slice none 0 0] 54 (0, 0)) BKgh.out hb)
  clear BKgh
  have BKgh := n_BKgh
  clear n_BKgh
  have n1_ := Aside0.mk (below_step HB.out hb)
  clear HB hb
  have HB := n1_
  clear n1_
  refine hK.out _ _ ⟨(blk_cell BKgc.out 0).trans rfl, (blk_cell BKgc.out 1).trans rfl, (blk_cell BKgc.out 2).trans rfl, (blk_cell BKgc.out 3).trans rfl, (blk_cell BKgc.out 4).trans rfl, (blk_cell BKgh.out 0).trans rfl, (blk_cell BKgh.out 1).trans rfl, (blk_cell BKgh.out 2).trans rfl, (blk_cell BKgh.out 3).trans rfl, (blk_cell BKgh.out 4).trans rfl, (blk_cell BKgh.out 5).trans rfl, (blk_cell BKgh.out 6).trans rfl, (blk_cell BKgh.out 7).trans rfl, (blk_cell BKgh.out 8).trans rfl, (blk_cell BKgh.out 9).trans rfl, (blk_cell BKgh.out 10).trans rfl, (blk_cell BKgh.out 11).trans rfl, (blk_cell BKgh.out 12).trans rfl⟩ (fun hHeld => ?_)
  clear hK K
  refine norm_ (a' := ?_) ?_ ?_
  rotate_left
  · show Act.put _ (some 12) _ = _
    simp only [Act.put, List.setIfInBounds_toArray, List.set_cons_zero, List.set_cons_succ, i64_w]
    rfl
  refine pure_ (i := 6) (N := some 13) (v := ?_) (a' := ?_) #[true, true, true, true, true, true, true, false, false, false, false, false, false, false, false, false, false, false, false, false, false, false, false, false, false, false, false, false] rfl rfl (any_of HT_.out (by kernel_rfl)) (fun _ _ _ h => h) (Or.inl ⟨by rfl, ?_⟩) ?_ ?_
  rotate_left
  · intro w'
    go_simp
    with_reducible rfl
  rotate_left
  · simp only [Act.put, List.setIfInBounds_toArray, List.set_cons_zero, List.set_cons_succ, i64_w]
    rfl
  refine pure_ (i := 7) (N := some 14) (v := ?_) (a' := ?_) #[true, true, true, true, true, true, true, true, false, false, false, false, false, false, false, false, false, false, false, false, false, false, false, false, false, false, false, false] rfl rfl (any_of HT_.out (by kernel_rfl)) (fun _ _ _ h => h) (Or.inl ⟨by rfl, ?_⟩) ?_ ?_
  rotate_left
  · intro w'
    go_simp
    with_reducible rfl
  rotate_left
  · simp only [Act.put, List.setIfInBounds_toArray, List.set_cons_zero, List.set_cons_succ, i64_w]
    rfl
  refine pure_ (i := 8) (N := some 15) (v := ?_) (a' := ?_) #[true, true, true, true, true, true, true, true, true, false, false, false, false, false, false, false, false, false, false, false, false, false, false, false, false, false, false, false] rfl rfl (any_of HT_.out (by kernel_rfl)) (fun _ _ _ h => h) (Or.inl ⟨by rfl, ?_⟩) ?_ ?_
  rotate_left
  · intro w'
    go_simp
    with_reducible rfl
  rotate_left
  · simp only [Act.put, List.setIfInBounds_toArray, List.set_cons_zero, List.set_cons_succ, i64_w]
    rfl
  refine take_ (i := 9) (N := some 16) (v := ?_) (a' := ?_) #[true, true, true, true, true, true, true, true, true, true, false, false, false, false, false, false, false, false, false, false, false, false, false, false, false, false, false, false] rfl rfl (take_ofW HT_.out HW_.out (by kernel_rfl)) (fun _ _ _ h => h) (Or.inl ⟨by rfl, ?_⟩) hHeld ?_ ?_
  rotate_left
  · rintro w' ⟨s0, s1, s2, s3, s4, s5, s6, s7, s8, s9, s10, s11, s12, s13, s14, s15, s16, s17⟩
    go_simp
    with_reducible rfl
  rotate_left
  · simp only [Act.put, List.setIfInBounds_toArray, List.set_cons_zero, List.set_cons_succ, i64_w]
    rfl
  refine pure_ (i := 10) (N := some 17) (v := ?_) (a' := ?_) #[true, true, true, true, true, true, true, true, true, true, true, false, false, false, false, false, false, false, false, false, false, false, false, false, false, false, false, false] rfl rfl (any_of HT_.out (by kernel_rfl)) (fun _ _ _ h => h) (Or.inl ⟨by rfl, ?_⟩) ?_ ?_
  rotate_left
  · intro w'
    go_simp
    with_reducible rfl
  rotate_left
  · simp only [Act.put, List.setIfInBounds_toArray, List.set_cons_zero, List.set_cons_succ, i64_w]
    rfl
  refine pure_ (i := 11) (N := some 18) (v := ?_) (a' := ?_) #[true, true, true, true, true, true, true, true, true, true, true, true, false, false, false, false, false, false, false, false, false, false, false, false, false, false, false, false] rfl rfl (any_of HT_.out (by kernel_rfl)) (fun _ _ _ h => h) (Or.inl ⟨by rfl, ?_⟩) ?_ ?_
  rotate_left
  · intro w'
    go_simp
    with_reducible rfl
  rotate_left
  · simp only [Act.put, List.setIfInBounds_toArray, List.set_cons_zero, List.set_cons_succ, i64_w]
    rfl
  refine pure_ (i := 12) (N := some 19) (v := ?_) (a' := ?_) #[true, true, true, true, true, true, true, true, true, true, true, true, true, false, false, false, false, false, false, false, false, false, false, false, false, false, false, false] rfl rfl (any_of HT_.out (by kernel_rfl)) (fun _ _ _ h => h) (Or.inl ⟨by rfl, ?_⟩) ?_ ?_
  rotate_left
  · intro w'
    go_simp
    with_reducible rfl
  rotate_left
  · simp only [Act.put, List.setIfInBounds_toArray, List.set_cons_zero, List.set_cons_succ, i64_w]
    rfl
  refine take_ (i := 13) (N := some 20) (v := ?_) (a' := ?_) #[true, true, true, true, true, true, true, true, true, true, true, true, true, true, false, false, false, false, false, false, false, false, false, false, false, false, false, false] rfl rfl (take_ofW HT_.out HW_.out (by kernel_rfl)) (fun _ _ _ h => h) (Or.inl ⟨by rfl, ?_⟩) hHeld ?_ ?_
  rotate_left
  · rintro w' ⟨s0, s1, s2, s3, s4, s5, s6, s7, s8, s9, s10, s11, s12, s13, s14, s15, s16, s17⟩
    go_simp
    with_reducible rfl
  rotate_left
  · simp only [Act.put, List.setIfInBounds_toArray, List.set_cons_zero, List.set_cons_succ, i64_w]
    rfl
  refine one_ (i := 14) (N := some 21) #[true, true, true, true, true, true, true, true, true, true, true, true, true, true, true, false, false, false, false, false, false, false, false, false, false, false, false, false] rfl rfl (one_of HT_.out (by kernel_rfl)) (by decide) (fun K hK => ?_)
  refine goes_ Try.func11 (by kernel_rfl) rfl #[.agg #[.int .i64 1, .int .i64 1, .int .i64 0, .int .i64 0, .int .i64 1], .slice (some ⟨w.heap.size + 1, 0, none⟩) 1 1, .agg #[.int .i64 0, .int .i64 0, .int .i64 0, .int .i64 9, .int .i64 300, .int .i64 4, .int .u64 0, .int .u64 0, .int .i64 0, .int .i64 0, .bool false, .int .u64 0, .slice none 0 0]] (by rfl) rfl rfl (by (try simp only [List.map_toArray, List.map_cons, List.map_nil]); first | done | rfl) ?_
  with_reducible refine (HO.out _ (evC1 (c := 0) (A := none) (x := (⟨0, 0, 0, 9, 300, ⟨4, 0, 0, 0⟩, ⟨0, false, 0, []⟩⟩ : S54)) (by decide) (Kd.C_nil _ _) BKgh.out)).mono ?_
  rintro e w3 ⟨rfl, hb⟩
  refine ⟨_, rfl, ?_⟩
  have n_BKgc := Aside0.mk (blk_below (g := w.heap.size) (o := .cells #[.int .i64 1, .int .i64 1, .int .i64 0, .int .i64 0, .int .i64 1] 23 (0, 0)) BKgc.out hb)
  clear BKgc
  have BKgc := n_BKgc
  clear n_BKgc
  have n_BKgh := Aside0.mk (blk_below (g := (w.heap.size + 1)) (o := .cells #[.int .i64 0, .int .i64 0, .int .i64 0, .int .i64 9, .int .i64 300, .int .i64 4, .int .u64 0, .int .u64 0, .int .i64 0, .int .i64 0, .bool false, .int .u64 0, .slice none 0 0] 54 (0, 0)) BKgh.out hb)
  clear BKgh
  have BKgh := n_BKgh
  clear n_BKgh
  have n1_ := Aside0.mk (below_step HB.out hb)
  clear HB hb
  have HB := n1_
  clear n1_
  refine hK.out _ _ ⟨(blk_cell BKgc.out 0).trans rfl, (blk_cell BKgc.out 1).trans rfl, (blk_cell BKgc.out 2).trans rfl, (blk_cell BKgc.out 3).trans rfl, (blk_cell BKgc.out 4).trans rfl, (blk_cell BKgh.out 0).trans rfl, (blk_cell BKgh.out 1).trans rfl, (blk_cell BKgh.out 2).trans rfl, (blk_cell BKgh.out 3).trans rfl, (blk_cell BKgh.out 4).trans rfl, (blk_cell BKgh.out 5).trans rfl, (blk_cell BKgh.out 6).trans rfl, (blk_cell BKgh.out 7).trans rfl, (blk_cell BKgh.out 8).trans rfl, (blk_cell BKgh.out 9).trans rfl, (blk_cell BKgh.out 10).trans rfl, (blk_cell BKgh.out 11).trans rfl, (blk_cell BKgh.out 12).trans rfl⟩ (fun hHeld => ?_)
  clear hK K
  refine norm_ (a' := ?_) ?_ ?_
  rotate_left
  · show Act.put _ (some 21) _ = _
    simp only [Act.put, List.setIfInBounds_toArray, List.set_cons_zero, List.set_cons_succ, i64_w]
    rfl
  refine pure_ (i := 15) (N := some 22) (v := ?_) (a' := ?_) #[true, true, true, true, true, true, true, true, true, true, true, true, true, true, true, true, false, false, false, false, false, false, false, false, false, false, false, false] rfl rfl (any_of HT_.out (by kernel_rfl)) (fun _ _ _ h => h) (Or.inl ⟨by rfl, ?_⟩) ?_ ?_
  rotate_left
  · intro w'
    go_simp
    with_reducible rfl
  rotate_left
  · simp only [Act.put, List.setIfInBounds_toArray, List.set_cons_zero, List.set_cons_succ, i64_w]
    rfl
  refine pure_ (i := 16) (N := some 23) (v := ?_) (a' := ?_) #[true, true, true, true, true, true, true, true, true, true, true, true, true, true, true, true, true, false, false, false, false, false, false, false, false, false, false, false] rfl rfl (any_of HT_.out (by kernel_rfl)) (fun _ _ _ h => h) (Or.inl ⟨by rfl, ?_⟩) ?_ ?_
  rotate_left
  · intro w'
    go_simp
    with_reducible rfl
  rotate_left
  · simp only [Act.put, List.setIfInBounds_toArray, List.set_cons_zero, List.set_cons_succ, i64_w]
    rfl
  refine pure_ (i := 17) (N := some 24) (v := ?_) (a' := ?_) #[true, true, true, true, true, true, true, true, true, true, true, true, true, true, true, true, true, true, false, false, false, false, false, false, false, false, false, false] rfl rfl (any_of HT_.out (by kernel_rfl)) (fun _ _ _ h => h) (Or.inl ⟨by rfl, ?_⟩) ?_ ?_
  rotate_left
  · intro w'
    go_simp
    with_reducible rfl
  rotate_left
  · simp only [Act.put, List.setIfInBounds_toArray, List.set_cons_zero, List.set_cons_succ, i64_w]
    rfl
  refine take_ (i := 18) (N := some 25) (v := ?_) (a' := ?_) #[true, true, true, true, true, true, true, true, true, true, true, true, true, true, true, true, true, true, true, false, false, false, false, false, false, false, false, false] rfl rfl (take_ofW HT_.out HW_.out (by kernel_rfl)) (fun _ _ _ h => h) (Or.inl ⟨by rfl, ?_⟩) hHeld ?_ ?_
  rotate_left
  · rintro w' ⟨s0, s1, s2, s3, s4, s5, s6, s7, s8, s9, s10, s11, s12, s13, s14, s15, s16, s17⟩
    go_simp
    with_reducible rfl
  rotate_left
  · simp only [Act.put, List.setIfInBounds_toArray, List.set_cons_zero, List.set_cons_succ, i64_w]
    rfl
  refine pure_ (i := 19) (N := some 26) (v := ?_) (a' := ?_) #[true, true, true, true, true, true, true, true, true, true, true, true, true, true, true, true, true, true, true, true, false, false, false, false, false, false, false, false] rfl rfl (any_of HT_.out (by kernel_rfl)) (fun _ _ _ h => h) (Or.inl ⟨by rfl, ?_⟩) ?_ ?_
  rotate_left
  · intro w'
    go_simp
    with_reducible rfl
  rotate_left
  · simp only [Act.put, List.setIfInBounds_toArray, List.set_cons_zero, List.set_cons_succ, i64_w]
    rfl
  refine one_ (i := 20) (N := some 27) #[true, true, true, true, true, true, true, true, true, true, true, true, true, true, true, true, true, true, true, true, true, false, false, false, false, false, false, false] rfl rfl (one_of HT_.out (by kernel_rfl)) (by decide) (fun K hK => ?_)
  refine goes_ Try.func8 (by kernel_rfl) rfl #[.agg #[.int .i64 1, .int .i64 1, .int .i64 0, .int .i64 0, .int .i64 1], .slice (some ⟨w.heap.size + 1, 0, none⟩) 1 1] (by rfl) rfl rfl (by (try simp only [List.map_toArray, List.map_cons, List.map_nil]); first | done | rfl) ?_
  with_reducible refine (HK.out _ (evC1 (c := 0) (A := none) (x := (⟨0, 0, 0, 9, 300, ⟨4, 0, 0, 0⟩, ⟨0, false, 0, []⟩⟩ : S54)) (by decide) (Kd.C_nil _ _) BKgh.out)).mono ?_
  rintro e w4 ⟨rfl, hb⟩
  refine ⟨_, rfl, ?_⟩
  have n_BKgc := Aside0.mk (blk_below (g := w.heap.size) (o := .cells #[.int .i64 1, .int .i64 1, .int .i64 0, .int .i64 0, .int .i64 1] 23 (0, 0)) BKgc.out hb)
  clear BKgc
  have BKgc := n_BKgc
  clear n_BKgc
  have n_BKgh := Aside0.mk (blk_below (g := (w.heap.size + 1)) (o := .cells #[.int .i64 0, .int .i64 0, .int .i64 0, .int .i64 9, .int .i64 300, .int .i64 4, .int .u64 0, .int .u64 0, .int .i64 0, .int .i64 0, .bool false, .int .u64 0, .slice none 0 0] 54 (0, 0)) BKgh.out hb)
  clear BKgh
  have BKgh := n_BKgh
  clear n_BKgh
  have n1_ := Aside0.mk (below_step HB.out hb)
  clear HB hb
  have HB := n1_
  clear n1_
  refine hK.out _ _ ⟨(blk_cell BKgc.out 0).trans rfl, (blk_cell BKgc.out 1).trans rfl, (blk_cell BKgc.out 2).trans rfl, (blk_cell BKgc.out 3).trans rfl, (blk_cell BKgc.out 4).trans rfl, (blk_cell BKgh.out 0).trans rfl, (blk_cell BKgh.out 1).trans rfl, (blk_cell BKgh.out 2).trans rfl, (blk_cell BKgh.out 3).trans rfl, (blk_cell BKgh.out 4).trans rfl, (blk_cell BKgh.out 5).trans rfl, (blk_cell BKgh.out 6).trans rfl, (blk_cell BKgh.out 7).trans rfl, (blk_cell BKgh.out 8).trans rfl, (blk_cell BKgh.out 9).trans rfl, (blk_cell BKgh.out 10).trans rfl, (blk_cell BKgh.out 11).trans rfl, (blk_cell BKgh.out 12).trans rfl⟩ (fun hHeld => ?_)
  clear hK K
  refine norm_ (a' := ?_) ?_ ?_
  rotate_left
  · show Act.put _ (some 27) _ = _
    simp only [Act.put, List.setIfInBounds_toArray, List.set_cons_zero, List.set_cons_succ, i64_w]
    rfl
  refine pure_ (i := 21) (N := some 28) (v := ?_) (a' := ?_) #[true, true, true, true, true, true, true, true, true, true, true, true, true, true, true, true, true, true, true, true, true, true, false, false, false, false, false, false] rfl rfl (any_of HT_.out (by kernel_rfl)) (fun _ _ _ h => h) (Or.inl ⟨by rfl, ?_⟩) ?_ ?_
  rotate_left
  · intro w'
    go_simp
    with_reducible rfl
  rotate_left
  · simp only [Act.put, List.setIfInBounds_toArray, List.set_cons_zero, List.set_cons_succ, i64_w]
    rfl
  refine pure_ (i := 22) (N := some 29) (v := ?_) (a' := ?_) #[true, true, true, true, true, true, true, true, true, true, true, true, true, true, true, true, true, true, true, true, true, true, true, false, false, false, false, false] rfl rfl (any_of HT_.out (by kernel_rfl)) (fun _ _ _ h => h) (Or.inl ⟨by rfl, ?_⟩) ?_ ?_
  rotate_left
  · intro w'
    go_simp
    with_reducible rfl
  rotate_left
  · simp only [Act.put, List.setIfInBounds_toArray, List.set_cons_zero, List.set_cons_succ, i64_w]
    rfl
  refine pure_ (i := 23) (N := some 30) (v := ?_) (a' := ?_) #[true, true, true, true, true, true, true, true, true, true, true, true, true, true, true, true, true, true, true, true, true, true, true, true, false, false, false, false] rfl rfl (any_of HT_.out (by kernel_rfl)) (fun _ _ _ h => h) (Or.inl ⟨by rfl, ?_⟩) ?_ ?_
  rotate_left
  · intro w'
    go_simp
    with_reducible rfl
  rotate_left
  · simp only [Act.put, List.setIfInBounds_toArray, List.set_cons_zero, List.set_cons_succ, i64_w]
    rfl
  refine take_ (i := 24) (N := some 31) (v := ?_) (a' := ?_) #[true, true, true, true, true, true, true, true, true, true, true, true, true, true, true, true, true, true, true, true, true, true, true, true, true, false, false, false] rfl rfl (take_ofW HT_.out HW_.out (by kernel_rfl)) (fun _ _ _ h => h) (Or.inl ⟨by rfl, ?_⟩) hHeld ?_ ?_
  rotate_left
  · rintro w' ⟨s0, s1, s2, s3, s4, s5, s6, s7, s8, s9, s10, s11, s12, s13, s14, s15, s16, s17⟩
    go_simp
    with_reducible rfl
  rotate_left
  · simp only [Act.put, List.setIfInBounds_toArray, List.set_cons_zero, List.set_cons_succ, i64_w]
    rfl
  refine one_ (i := 25) (N := some 32) #[true, true, true, true, true, true, true, true, true, true, true, true, true, true, true, true, true, true, true, true, true, true, true, true, true, true, false, false] rfl rfl (one_of HT_.out (by kernel_rfl)) (by decide) (fun K hK => ?_)
  refine goes_ Try.func8 (by kernel_rfl) rfl #[.agg #[.int .i64 1, .int .i64 1, .int .i64 0, .int .i64 0, .int .i64 1], .slice none 0 0] (by rfl) rfl rfl (by (try simp only [List.map_toArray, List.map_cons, List.map_nil]); first | done | rfl) ?_
  with_reducible refine (HN.out _).mono ?_
  rintro e w5 ⟨rfl, hb⟩
  refine ⟨_, rfl, ?_⟩
  have n_BKgc := Aside0.mk (blk_below (g := w.heap.size) (o := .cells #[.int .i64 1, .int .i64 1, .int .i64 0, .int .i64 0, .int .i64 1] 23 (0, 0)) BKgc.out hb)
  clear BKgc
  have BKgc := n_BKgc
  clear n_BKgc
  have n_BKgh := Aside0.mk (blk_below (g := (w.heap.size + 1)) (o := .cells #[.int .i64 0, .int .i64 0, .int .i64 0, .int .i64 9, .int .i64 300, .int .i64 4, .int .u64 0, .int .u64 0, .int .i64 0, .int .i64 0, .bool false, .int .u64 0, .slice none 0 0] 54 (0, 0)) BKgh.out hb)
  clear BKgh
  have BKgh := n_BKgh
  clear n_BKgh
  have n1_ := Aside0.mk (below_step HB.out hb)
  clear HB hb
  have HB := n1_
  clear n1_
  refine hK.out _ _ ⟨(blk_cell BKgc.out 0).trans rfl, (blk_cell BKgc.out 1).trans rfl, (blk_cell BKgc.out 2).trans rfl, (blk_cell BKgc.out 3).trans rfl, (blk_cell BKgc.out 4).trans rfl, (blk_cell BKgh.out 0).trans rfl, (blk_cell BKgh.out 1).trans rfl, (blk_cell BKgh.out 2).trans rfl, (blk_cell BKgh.out 3).trans rfl, (blk_cell BKgh.out 4).trans rfl, (blk_cell BKgh.out 5).trans rfl, (blk_cell BKgh.out 6).trans rfl, (blk_cell BKgh.out 7).trans rfl, (blk_cell BKgh.out 8).trans rfl, (blk_cell BKgh.out 9).trans rfl, (blk_cell BKgh.out 10).trans rfl, (blk_cell BKgh.out 11).trans rfl, (blk_cell BKgh.out 12).trans rfl⟩ (fun hHeld => ?_)
  clear hK K
  refine norm_ (a' := ?_) ?_ ?_
  rotate_left
  · show Act.put _ (some 32) _ = _
    simp only [Act.put, List.setIfInBounds_toArray, List.set_cons_zero, List.set_cons_succ, i64_w]
    rfl
  refine pure_ (i := 26) (N := some 33) (v := ?_) (a' := ?_) #[true, true, true, true, true, true, true, true, true, true, true, true, true, true, true, true, true, true, true, true, true, true, true, true, true, true, true, false] rfl rfl (any_of HT_.out (by kernel_rfl)) (fun _ _ _ h => h) (Or.inl ⟨by rfl, ?_⟩) ?_ ?_
  rotate_left
  · intro w'
    go_simp
    with_reducible rfl
  rotate_left
  · simp only [Act.put, List.setIfInBounds_toArray, List.set_cons_zero, List.set_cons_succ, i64_w]
    rfl
  refine pure_ (i := 27) (N := some 0) (v := ?_) (a' := ?_) #[true, true, true, true, true, true, true, true, true, true, true, true, true, true, true, true, true, true, true, true, true, true, true, true, true, true, true, true] rfl rfl (any_of HT_.out (by kernel_rfl)) (fun _ _ _ h => h) (Or.inl ⟨by rfl, ?_⟩) ?_ ?_
  rotate_left
  · intro w'
    go_simp
    with_reducible rfl
  rotate_left
  · simp only [Act.put, List.setIfInBounds_toArray, List.set_cons_zero, List.set_cons_succ, i64_w]
    rfl
  refine done_ (done_of HT_.out (by kernel_rfl)) ?_
  go_wp2
  go_ret
  exact ⟨by first | rfl | (simp; done), by repeat (first | (with_reducible first | exact HB.out | apply below_alloc | apply pw_below_drewN | apply below_drew1) | exact HB.out)⟩
def corrieref03_May.f (a0 : Int) : Option (Bool) := if a0 = 1 then (some true) else (if a0 = 2 then (some true) else (if a0 = 4 then (some true) else (if a0 = 8 then (some true) else (if a0 = 16 then (some true) else (if a0 = 32 then (some true) else (some (a0 == 64)))))))
set_option maxHeartbeats 8000000 in
set_option maxRecDepth 100000 in
theorem corrieref03_May.calls (a0 : Int) (r : Bool) (w : World) (h : corrieref03_May.f a0 = some r) :
    Calls Try.prog 18 #[.int .i64 a0] w fun e w' => e = .returned (.bool r) ∧ Drawn0 w w' := by
  have H : (if a0 = 1 then (some true) else (if a0 = 2 then (some true) else (if a0 = 4 then (some true) else (if a0 = 8 then (some true) else (if a0 = 16 then (some true) else (if a0 = 32 then (some true) else (some (a0 == 64)))))))) = some r := h
  clear h
  by_cases c2 : a0 = 1
  · rw [if_pos c2] at H
    have c2b0 : (a0 == 1) = true := beq_iff_eq.mpr c2
    have c2b1 : (a0 != 1) = false := bne_eq_false_iff_eq.mpr c2
    clear c2
    obtain rfl := Option.some.inj H
    go_enter Try.func18, Try.ntmps18
    go_wp2
    go_ret
    exact ⟨by first | rfl | (simp; done) | (simp [*]; done), by repeat (first | exact Drawn0.refl _ | apply Drawn0.step)⟩
  · rw [if_neg c2] at H
    have c2b0 : (a0 == 1) = false := beq_eq_false_iff_ne.mpr c2
    have c2b1 : (a0 != 1) = true := bne_iff_ne.mpr c2
    by_cases c3 : a0 = 2
    · rw [if_pos c3] at H
      have c3b0 : (a0 == 2) = true := beq_iff_eq.mpr c3
      have c3b1 : (a0 != 2) = false := bne_eq_false_iff_eq.mpr c3
      clear c3
      obtain rfl := Option.some.inj H
      go_enter Try.func18, Try.ntmps18
      go_wp2
      go_ret
      exact ⟨by first | rfl | (simp; done) | (simp [*]; done), by repeat (first | exact Drawn0.refl _ | apply Drawn0.step)⟩
    · rw [if_neg c3] at H
      have c3b0 : (a0 == 2) = false := beq_eq_false_iff_ne.mpr c3
      have c3b1 : (a0 != 2) = true := bne_iff_ne.mpr c3
      by_cases c4 : a0 = 4
      · rw [if_pos c4] at H
        have c4b0 : (a0 == 4) = true := beq_iff_eq.mpr c4
        have c4b1 : (a0 != 4) = false := bne_eq_false_iff_eq.mpr c4
        clear c4
        obtain rfl := Option.some.inj H
        go_enter Try.func18, Try.ntmps18
        go_wp2
        go_ret
        exact ⟨by first | rfl | (simp; done) | (simp [*]; done), by repeat (first | exact Drawn0.refl _ | apply Drawn0.step)⟩
      · rw [if_neg c4] at H
        have c4b0 : (a0 == 4) = false := beq_eq_false_iff_ne.mpr c4
        have c4b1 : (a0 != 4) = true := bne_iff_ne.mpr c4
        by_cases c5 : a0 = 8
        · rw [if_pos c5] at H
          have c5b0 : (a0 == 8) = true := beq_iff_eq.mpr c5
          have c5b1 : (a0 != 8) = false := bne_eq_false_iff_eq.mpr c5
          clear c5
          obtain rfl := Option.some.inj H
          go_enter Try.func18, Try.ntmps18
          go_wp2
          go_ret
          exact ⟨by first | rfl | (simp; done) | (simp [*]; done), by repeat (first | exact Drawn0.refl _ | apply Drawn0.step)⟩
        · rw [if_neg c5] at H
          have c5b0 : (a0 == 8) = false := beq_eq_false_iff_ne.mpr c5
          have c5b1 : (a0 != 8) = true := bne_iff_ne.mpr c5
          by_cases c6 : a0 = 16
          · rw [if_pos c6] at H
            have c6b0 : (a0 == 16) = true := beq_iff_eq.mpr c6
            have c6b1 : (a0 != 16) = false := bne_eq_false_iff_eq.mpr c6
            clear c6
            obtain rfl := Option.some.inj H
            go_enter Try.func18, Try.ntmps18
            go_wp2
            go_ret
            exact ⟨by first | rfl | (simp; done) | (simp [*]; done), by repeat (first | exact Drawn0.refl _ | apply Drawn0.step)⟩
          · rw [if_neg c6] at H
            have c6b0 : (a0 == 16) = false := beq_eq_false_iff_ne.mpr c6
            have c6b1 : (a0 != 16) = true := bne_iff_ne.mpr c6
            by_cases c7 : a0 = 32
            · rw [if_pos c7] at H
              have c7b0 : (a0 == 32) = true := beq_iff_eq.mpr c7
              have c7b1 : (a0 != 32) = false := bne_eq_false_iff_eq.mpr c7
              clear c7
              obtain rfl := Option.some.inj H
              go_enter Try.func18, Try.ntmps18
              go_wp2
              go_ret
              exact ⟨by first | rfl | (simp; done) | (simp [*]; done), by repeat (first | exact Drawn0.refl _ | apply Drawn0.step)⟩
            · rw [if_neg c7] at H
              have c7b0 : (a0 == 32) = false := beq_eq_false_iff_ne.mpr c7
              have c7b1 : (a0 != 32) = true := bne_iff_ne.mpr c7
              obtain rfl := Option.some.inj H
              go_enter Try.func18, Try.ntmps18
              go_wp2
              go_ret
              exact ⟨by first | rfl | (simp; done) | (simp [*]; done), by repeat (first | exact Drawn0.refl _ | apply Drawn0.step)⟩
end Go.Proofs.Ytbhakljebcmocaa.PBoundKeeps
end
section
namespace Go.Proofs.Ytbhakljebcmocaa.PBoundKeeps
open Go.RowKit Go.Proofs.YtbhakljebcmocaaW.PrintWords Go.Proofs.YtbhakljebcmocaaW.PrintLast Go.Proofs.YtbhakljebcmocaaW.PrintMore
set_option linter.unusedVariables false
set_option linter.unusedSimpArgs false
mutual
def corrieref20_Few.l0 : Nat → List (List (S48)) → List Int → Int → Option (Bool)
 | 0, _, _, _ => none
 | k + 1, x0, x1, x5 => if x5 < (x0.length : Int) then (corrieref20_Few.j1 k x0 x1 x5 (decide (x5 < 5))) else (corrieref20_Few.j1 k x0 x1 x5 false)
def corrieref20_Few.j1 : Nat → List (List (S48)) → List Int → Int → Bool → Option (Bool)
 | 0, _, _, _, _ => none
 | k + 1, x0, x1, x5, x13 => if x13 = true then (if 0 ≤ x5 then (if x5 < (x0.length : Int) then (if ((rd_L10 x0 x5).length : Int) > 4 then (some false) else (corrieref20_Few.l0 k x0 x1 (wrap64 (x5 + 1)))) else (none)) else (none)) else (if (x0.length : Int) ≤ 4 then (some (decide ((x1.length : Int) ≤ 240))) else (some false))
end
def corrieref20_Few.f (k : Nat) (l0 : List (List (S48))) (l1 : List Int) : Option (Bool) := corrieref20_Few.l0 k l0 l1 0
set_option maxHeartbeats 8000000 in
set_option maxRecDepth 100000 in
theorem corrieref20_Few.calls (k : Nat) (A0 : Option Addr) (c0 : Nat) (l0 : List (List (S48))) (A1 : Option Addr) (c1 : Nat) (l1 : List Int) (r : Bool) (w : World) (hr0 : Kd.C (Kd.slice 48 k48) w A0 l0.length l0) (hc0 : l0.length ≤ c0) (hr1 : Kd.C (Kd.int .i64) w A1 l1.length l1) (hc1 : l1.length ≤ c1) (h : corrieref20_Few.f k l0 l1 = some r) :
    Calls Try.prog 6 #[.slice A0 l0.length c0, .slice A1 l1.length c1] w fun e w' => e = .returned (.bool r) ∧ Drawn0 w w' := by
  have HR0 := Aside0.mk hr0
  have HC0 := Aside0.mk hc0
  clear hr0 hc0
  have HR1 := Aside0.mk hr1
  have HC1 := Aside0.mk hc1
  clear hr1 hc1
  have H : (corrieref20_Few.l0 k l0 l1 0) = some r := h
  clear h
  have H' := Aside0.mk H
  clear H
  go_enter Try.func6, Try.ntmps6
  go_wp2
  go_loopg [5] k (fun kq v5 w' => ∃ (x5_1 : Int), v5 = .int .i64 x5_1 ∧ Aside0 (corrieref20_Few.l0 kq l0 l1 x5_1 = some r) ∧ Aside0 (kq ≤ k) ∧ Drawn0 w w')
  case atStart => exact ⟨(0), (by first | rfl | (simp; done) | (simp [*]; done)), H', ⟨Nat.le_refl _⟩, by repeat (first | exact Drawn0.refl _ | apply Drawn0.step)⟩
  case round =>
    clear H'
    try clear c1
    try clear p2
    obtain ⟨x5_1, rfl, HA, HK1, ⟨m1, rfl⟩⟩ := hrel
    cases gk with
    | zero => exact absurd HA.out (by simp [corrieref20_Few.l0])
    | succ k1 =>
      have H := HA.out
      clear HA
      simp only [corrieref20_Few.l0] at H
      have HC3 := Aside0.mk H
      clear H
      go_upto_region 2 with (fail)
      go_cut [13] (fun v13 wc => ∃ (kq : Nat) (x13_2 : Bool), v13 = .bool x13_2 ∧ Aside0 (corrieref20_Few.j1 kq l0 l1 x5_1 x13_2 = some r) ∧ Aside0 (kq ≤ k1) ∧ Drawn0 w wc)
      case first =>
        have H := HC3.out
        clear HC3
        by_cases c4 : x5_1 < (l0.length : Int)
        · rw [if_pos c4] at H
          have c4b0 : decide (x5_1 < (l0.length : Int)) = true := decide_eq_true c4
          clear c4
          (first | rw [c4b0] | (simp only [i64_w]; rw [c4b0]) | skip)
          have H' := Aside0.mk H
          clear H
          go_wp2
          go_meet
          case rel => exact ⟨_, (decide (x5_1 < 5)), (by first | rfl | (simp; done) | (simp [*]; done)), H', ⟨by have := HK1.out; first | omega | exact Nat.le_refl _⟩, by repeat (first | exact Drawn0.refl _ | apply Drawn0.step)⟩
        · rw [if_neg c4] at H
          have c4b0 : decide (x5_1 < (l0.length : Int)) = false := decide_eq_false c4
          clear c4
          (first | rw [c4b0] | (simp only [i64_w]; rw [c4b0]) | skip)
          have H' := Aside0.mk H
          clear H
          go_wp2
          go_meet
          case rel => exact ⟨_, (false), (by first | rfl | (simp; done) | (simp [*]; done)), H', ⟨by have := HK1.out; first | omega | exact Nat.le_refl _⟩, by repeat (first | exact Drawn0.refl _ | apply Drawn0.step)⟩
      case rest =>
        clear HC3
        try clear c1
        try clear p2
        try clear c4
        try clear c4b0
        try clear p2
        obtain ⟨kq, x13_2, rfl, HA, HJ2, ⟨mc2, rfl⟩⟩ := hcut
        cases kq with
        | zero => exact absurd HA.out (by simp [corrieref20_Few.j1])
        | succ kj2 =>
          have H := HA.out
          clear HA
          simp only [corrieref20_Few.j1] at H
          by_cases c5 : x13_2 = true
          · subst c5
            have H1 : (if 0 ≤ x5_1 then (if x5_1 < (l0.length : Int) then (if ((rd_L10 l0 x5_1).length : Int) > 4 then (some false) else (corrieref20_Few.l0 kj2 l0 l1 (wrap64 (x5_1 + 1)))) else (none)) else (none)) = some r := by rw [if_pos rfl] at H; exact H
            clear H
            have H := H1
            clear H1
            by_cases c6 : 0 ≤ x5_1
            · rw [if_pos c6] at H
              have c6b0 : decide (0 ≤ x5_1) = true := decide_eq_true c6
              clear c6
              by_cases c7 : x5_1 < (l0.length : Int)
              · rw [if_pos c7] at H
                have c7b0 : decide (x5_1 < (l0.length : Int)) = true := decide_eq_true c7
                clear c7
                by_cases c8 : ((rd_L10 l0 x5_1).length : Int) > 4
                · rw [if_pos c8] at H
                  have c8b0 : decide (4 < ((rd_L10 l0 x5_1).length : Int)) = true := decide_eq_true c8
                  have c8b1 : decide (4 < (rd_L10 l0 x5_1).length) = true := decide_eq_true (by omega)
                  clear c8
                  obtain rfl := Option.some.inj H
                  have p120 : 0 ≤ (x5_1 : Int) := of_decide_eq_true (by first | (with_reducible assumption) | assumption)
                  have q120 : x5_1 < (l0.length : Int) := of_decide_eq_true (by first | (with_reducible assumption) | assumption)
                  obtain ⟨ad120, A120_0, c120_0, e120, hx120_0, hl120_0, hi120_0⟩ := at_L10 HR0.out x5_1 p120 q120
                  cases e120
                  have HR120_0 := Aside0.mk hi120_0
                  have HC120_0 := Aside0.mk hl120_0
                  clear hi120_0 hl120_0
                  replace p120 := eq_true p120
                  replace q120 := eq_true q120
                  go_wp2
                  go_ret
                  exact ⟨by first | rfl | (simp; done) | (simp [*]; done), by repeat (first | exact Drawn0.refl _ | apply Drawn0.step)⟩
                · rw [if_neg c8] at H
                  have c8b0 : decide (4 < ((rd_L10 l0 x5_1).length : Int)) = false := decide_eq_false c8
                  have c8b1 : decide (4 < (rd_L10 l0 x5_1).length) = false := decide_eq_false (by omega)
                  clear c8
                  have H' := Aside0.mk H
                  clear H
                  have p120 : 0 ≤ (x5_1 : Int) := of_decide_eq_true (by first | (with_reducible assumption) | assumption)
                  have q120 : x5_1 < (l0.length : Int) := of_decide_eq_true (by first | (with_reducible assumption) | assumption)
                  obtain ⟨ad120, A120_0, c120_0, e120, hx120_0, hl120_0, hi120_0⟩ := at_L10 HR0.out x5_1 p120 q120
                  cases e120
                  have HR120_0 := Aside0.mk hi120_0
                  have HC120_0 := Aside0.mk hl120_0
                  clear hi120_0 hl120_0
                  replace p120 := eq_true p120
                  replace q120 := eq_true q120
                  go_wp2
                  go_roundg kj2
                  case measure => have := HK1.out; have := HJ2.out; omega
                  case rel => exact ⟨(wrap64 (x5_1 + 1)), (by first | rfl | (simp; done) | (simp [*]; done)), H', ⟨by have := HK1.out; have := HJ2.out; omega⟩, by repeat (first | exact Drawn0.refl _ | apply Drawn0.step)⟩
              · rw [if_neg c7] at H
                exact absurd H (by simp)
            · rw [if_neg c6] at H
              exact absurd H (by simp)
          · replace c5 := Bool.eq_false_iff.mpr c5
            subst c5
            have H1 : (if (l0.length : Int) ≤ 4 then (some (decide ((l1.length : Int) ≤ 240))) else (some false)) = some r := by rw [if_neg (show ¬ (false = true) by decide)] at H; exact H
            clear H
            have H := H1
            clear H1
            by_cases c9 : (l0.length : Int) ≤ 4
            · rw [if_pos c9] at H
              have c9b0 : decide ((l0.length : Int) ≤ 4) = true := decide_eq_true c9
              have c9b1 : decide (l0.length ≤ 4) = true := decide_eq_true (by omega)
              clear c9
              obtain rfl := Option.some.inj H
              go_wp2
              go_ret
              exact ⟨by first | rfl | (simp; done) | (simp [*]; done), by repeat (first | exact Drawn0.refl _ | apply Drawn0.step)⟩
            · rw [if_neg c9] at H
              have c9b0 : decide ((l0.length : Int) ≤ 4) = false := decide_eq_false c9
              have c9b1 : decide (l0.length ≤ 4) = false := decide_eq_false (by omega)
              clear c9
              obtain rfl := Option.some.inj H
              go_wp2
              go_ret
              exact ⟨by first | rfl | (simp; done) | (simp [*]; done), by repeat (first | exact Drawn0.refl _ | apply Drawn0.step)⟩
def corrieref15_Next.f (a0 : Int) (a1 : Int) : Option (Int) := if a0 < (-1) then (some 0) else (if a0 ≥ a1 then (some 0) else (if (wrap64 (a0 + 1)) ≥ a1 then (some 0) else (some (wrap64 (a0 + 1)))))
set_option maxHeartbeats 8000000 in
set_option maxRecDepth 100000 in
theorem corrieref15_Next.calls (a0 : Int) (a1 : Int) (r : Int) (w : World) (h : corrieref15_Next.f a0 a1 = some r) :
    Calls Try.prog 20 #[.int .i64 a0, .int .i64 a1] w fun e w' => e = .returned (.int .i64 r) ∧ Drawn0 w w' := by
  have H : (if a0 < (-1) then (some 0) else (if a0 ≥ a1 then (some 0) else (if (wrap64 (a0 + 1)) ≥ a1 then (some 0) else (some (wrap64 (a0 + 1)))))) = some r := h
  clear h
  by_cases c3 : a0 < (-1)
  · rw [if_pos c3] at H
    have c3b0 : decide (a0 < (-1)) = true := decide_eq_true c3
    clear c3
    obtain rfl := Option.some.inj H
    go_enter Try.func20, Try.ntmps20
    go_wp2
    go_ret
    exact ⟨by first | rfl | (simp; done) | (simp [*]; done), by repeat (first | exact Drawn0.refl _ | apply Drawn0.step)⟩
  · rw [if_neg c3] at H
    have c3b0 : decide (a0 < (-1)) = false := decide_eq_false c3
    clear c3
    by_cases c4 : a0 ≥ a1
    · rw [if_pos c4] at H
      have c4b0 : decide (a1 ≤ a0) = true := decide_eq_true c4
      clear c4
      obtain rfl := Option.some.inj H
      go_enter Try.func20, Try.ntmps20
      go_wp2
      go_ret
      exact ⟨by first | rfl | (simp; done) | (simp [*]; done), by repeat (first | exact Drawn0.refl _ | apply Drawn0.step)⟩
    · rw [if_neg c4] at H
      have c4b0 : decide (a1 ≤ a0) = false := decide_eq_false c4
      clear c4
      by_cases c5 : (wrap64 (a0 + 1)) ≥ a1
      · rw [if_pos c5] at H
        have c5b0 : decide (a1 ≤ (wrap64 (a0 + 1))) = true := decide_eq_true c5
        clear c5
        obtain rfl := Option.some.inj H
        go_enter Try.func20, Try.ntmps20
        go_wp2
        go_ret
        exact ⟨by first | rfl | (simp; done) | (simp [*]; done), by repeat (first | exact Drawn0.refl _ | apply Drawn0.step)⟩
      · rw [if_neg c5] at H
        have c5b0 : decide (a1 ≤ (wrap64 (a0 + 1))) = false := decide_eq_false c5
        clear c5
        obtain rfl := Option.some.inj H
        go_enter Try.func20, Try.ntmps20
        go_wp2
        go_ret
        exact ⟨by first | rfl | (simp; done) | (simp [*]; done), by repeat (first | exact Drawn0.refl _ | apply Drawn0.step)⟩
end Go.Proofs.Ytbhakljebcmocaa.PBoundKeeps
end
section
namespace Go.Proofs.Ytbhakljebcmocaa.PBoundKeeps
open Go.RowKit Go.Proofs.YtbhakljebcmocaaW.PrintWords Go.Proofs.YtbhakljebcmocaaW.PrintLast Go.Proofs.YtbhakljebcmocaaW.PrintMore
set_option linter.unusedVariables false
set_option linter.unusedSimpArgs false
def corrieref01_Index.f (a0 : Int) : Option (Int) := some (wrap64 (IntKind.u64.wrap (Int.tdiv a0 2)))
set_option maxHeartbeats 8000000 in
set_option maxRecDepth 100000 in
theorem corrieref01_Index.calls (a0 : Int) (r : Int) (w : World) (h : corrieref01_Index.f a0 = some r) :
    Calls Try.prog 43 #[.int .u64 a0] w fun e w' => e = .returned (.int .i64 r) ∧ Drawn0 w w' := by
  have H : (some (wrap64 (IntKind.u64.wrap (Int.tdiv a0 2)))) = some r := h
  clear h
  obtain rfl := Option.some.inj H
  go_enter Try.func43, Try.ntmps43
  go_wp2
  go_ret
  exact ⟨by first | rfl | (simp; done) | (simp [*]; done), by repeat (first | exact Drawn0.refl _ | apply Drawn0.step)⟩
end Go.Proofs.Ytbhakljebcmocaa.PBoundKeeps
end
