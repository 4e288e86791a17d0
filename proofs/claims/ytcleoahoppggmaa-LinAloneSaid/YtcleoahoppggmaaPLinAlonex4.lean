-- Written by a program of this session: a variant of the print that takes proofs by hand (wip/tools/mkprint.py)
import Derived.Test.YtcleoahoppggmaaPLinAlonex0
import Derived.Test.YtcleoahoppggmaaPLinAlonex2
import Derived.Test.YtcleoahoppggmaaPLinAlonex3
namespace Go.Proofs.Ytcleoahoppggmaa.PLinAlone
open Go.RowKit Go.Proofs.YtcleoahoppggmaaW.PrintWords Go.Proofs.YtcleoahoppggmaaW.PrintLast Go.Proofs.YtcleoahoppggmaaW.PrintMore
attribute [local go_sem] max2_int min2_int max_two min_two max_three min_three max_four min_four   -- for this text's walks alone
set_option linter.unusedVariables false
set_option linter.unusedSimpArgs false

/-! ### lin_search_ready: function 31 (by hand) -/
def bef (e f : S44) : Bool := decide (0 ≤ e.f3) && decide (e.f3 < f.f2)
theorem li_Before (e f : S44) (A B : Option Addr) (c d : Nat) (hc : e.f6.f3.length ≤ c) (hd : f.f6.f3.length ≤ d) (W : World) (hr : Kd.C k53 W A e.f6.f3.length e.f6.f3) (hs : Kd.C k53 W B f.f6.f3.length f.f6.f3) :
    Calls Try.prog 36 #[.agg #[.int .i64 e.f0, .int .i64 e.f1, .int .i64 e.f2, .int .i64 e.f3, .int .i64 e.f4, .int .i64 e.f5.f0, .int .u64 e.f5.f1, .int .u64 e.f5.f2, .int .i64 e.f5.f3, .int .i64 e.f6.f0, .bool e.f6.f1, .int .u64 e.f6.f2, .slice A e.f6.f3.length c], .agg #[.int .i64 f.f0, .int .i64 f.f1, .int .i64 f.f2, .int .i64 f.f3, .int .i64 f.f4, .int .i64 f.f5.f0, .int .u64 f.f5.f1, .int .u64 f.f5.f2, .int .i64 f.f5.f3, .int .i64 f.f6.f0, .bool f.f6.f1, .int .u64 f.f6.f2, .slice B f.f6.f3.length d]] W fun e' w' => e' = .returned (.bool (bef e f)) ∧ Below W.heap.size W w' :=
  history_Before.calls (r := bef e f) (w := W) (hr0_12 := hr) (hc0_12 := hc) (hr1_12 := hs) (hc1_12 := hd) (h := by
    unfold history_Before.f bef
    by_cases h : 0 ≤ e.f3
    · rw [if_pos h, decide_eq_true h, Bool.true_and]
    · rw [if_neg h, decide_eq_false h, Bool.false_and])
def readyB (h : List S44) (inb : List Bool) (n i : Nat) : Bool := !(inA inb i) && isPt (rd_T44 h (i : Int)) && bef (rd_T44 h (i : Int)) (rd_T44 h (n : Int))
def readyP (h : List S44) (inb : List Bool) (n : Nat) : Bool := !(inA inb n) && isPt (rd_T44 h (n : Int)) && (List.range h.length).all fun i => !(readyB h inb n i)
theorem readyP_no {h : List S44} {inb : List Bool} {n i : Nat} (hi : i < h.length) (hw : readyB h inb n i = true) : readyP h inb n = false := by
  unfold readyP
  rw [Bool.and_eq_false_iff]
  right
  rw [List.all_eq_false]
  exact ⟨i, List.mem_range.mpr hi, by rw [hw]; decide⟩
theorem readyP_yes {h : List S44} {inb : List Bool} {n : Nat} (h1 : inA inb n = false) (h2 : isPt (rd_T44 h (n : Int)) = true) (hw : ∀ j, j < h.length → readyB h inb n j = false) : readyP h inb n = true := by
  unfold readyP
  rw [h1, h2, Bool.not_false, Bool.true_and, Bool.true_and, List.all_eq_true]
  intro j hj
  rw [hw j (List.mem_range.mp hj)]
  rfl
def li_ready_lb (n m : Nat) : Array Bool := ((List.range n).map (fun i => m.testBit i)).toArray
def li_ready.T6 : Bool × List (List Nat × List Nat) := (true, [([], []), ([0], [0]), ([1], [1]), ([2], [2]), ([], []), ([3, 4], [3, 4]), ([5], [5]), ([6], [6]), ([7], [7]), ([8], [8]), ([9, 8, 8], [8, 9]), ([8, 10], [8, 10]), ([11, 10], [11]), ([12], [12]), ([12], [12]), ([14, 12], [12, 14]), ([15, 12], [12, 15]), ([16, 12], [12, 16]), ([12], [12]), ([17, 18, 12], [12, 17, 18]), ([19, 12], [12, 19]), ([13, 20, 12, 12], [12, 13, 20]), ([12, 21], [12, 21])])
def li_ready.B6 : List Nat := [0, 1, 3, 7, 0, 31, 63, 127, 255, 511, 1023, 2047, 4095, 8191, 8191, 24575, 57343, 122879, 8191, 516095, 1040383, 2097151, 4194303]
theorem li_ready.tab6 : rtab .any (opsOf Try.f31 6) = li_ready.T6 := by kernel_rfl
theorem li_ready.bits6 : waitsOk li_ready.T6.2 li_ready.B6 = true := by kernel_rfl
set_option maxHeartbeats 8000000 in
set_option maxRecDepth 100000 in
theorem li_ready (A : Option Addr) (c0 : Nat) (h : List S44) (hh : h.length ≤ 1000) (gs gi : Nat) (inb : List Bool) (hin : inb.length = h.length) (n : Nat) (hn : n < h.length) (W : World) (hr : Kd.C k44 W A h.length h) (hs : W.heap[gs]? = some (.cells #[.slice A h.length c0, .slice (some ⟨gi, 0, none⟩) h.length h.length] 64 (0, 0))) (hi : W.heap[gi]? = some (.cells (inb.map Value.bool).toArray 4 (0, 0))) :
    Calls Try.prog 31 #[.pointer (some ⟨gs, 0, none⟩), .int .i64 n] W fun e w' => e = .returned (.bool (readyP h inb n)) ∧ Below W.heap.size W w' := by
  have HR := Aside0.mk hr
  have HH := Aside0.mk hh
  have HN := Aside0.mk hin
  have BS := Aside0.mk hs
  have BI := Aside0.mk hi
  have HB := Aside0.mk (Below.refl W.heap.size W)
  clear hr hh hin hs hi
  have HNH := Aside0.mk hn
  have hn0 : (0 : Int) ≤ (n : Int) := by omega
  have hnb : (n : Int) ≤ 1000 := by have := HH.out; omega
  have hnl : (n : Int) < (h.length : Int) := by omega
  obtain ⟨ad, B12, d12, rfl, hF, hlf, hrf⟩ := ev_at HR.out n hn
  have hJ := in_cell inb n (by have := HN.out; omega)
  have hrp : ∀ i : Nat, readyB h inb n i = (!(inA inb i) && isPt (rd_T44 h (i : Int)) && bef (rd_T44 h (i : Int)) (rd_T44 h (n : Int))) := fun _ => rfl
  have hyes := fun h1 h2 hw => readyP_yes (h := h) (inb := inb) (n := n) h1 h2 hw
  have hnop : inA inb n = true ∨ isPt (rd_T44 h (n : Int)) = false → readyP h inb n = false := by
    intro hq
    unfold readyP
    rcases hq with hq | hq <;> rw [hq] <;> simp
  generalize rd_T44 h (n : Int) = f at hF hlf hrf hrp hyes hnop
  have HF := Aside0.mk hF
  have HLF := Aside0.mk hlf
  have HRF := Aside0.mk hrf
  have HRP := Aside0.mk hrp
  have HYES := Aside0.mk hyes
  have HNOP := Aside0.mk hnop
  clear hF hlf hrf hrp hyes hnop hn
  cases hjn : inA inb n
  · rw [hjn] at hJ
    have HJN := Aside0.mk hJ
    have HIN := Aside0.mk hjn
    clear hJ hjn
    cases hpt : isPt f
    · have HPT := Aside0.mk hpt
      go_enter Try.func31, Try.ntmps31
      go_wp2_with (first | ((with_reducible refine gate_dst (N := 13) rfl ?_); refine wq_load1 (ty := 4) (p := .tmp 12) (g := gi) (i := n) (v := .bool false) ?hgd34 ?ho34 ?hp34 Try.underlying4 ?hd34 BI.out ?hv34 ?_; (case hd34 => rfl); (case hgd34 => rfl); (case ho34 => rfl); (case hp34 => rfl); (case hv34 => exact HJN.out)) | ((with_reducible refine gate_dst (N := 10) rfl ?_); refine wq_load1 (ty := 41) (p := .tmp 9) (g := gs) (i := 1) (v := ?v35) ?hgd35 ?ho35 ?hp35 Try.underlying41 ?hd35 BS.out ?hv35 ?_; (case hd35 => rfl); (case hgd35 => rfl); (case ho35 => rfl); (case hp35 => rfl); (case hv35 => rfl)) | ((with_reducible refine gate_dst (N := 18) rfl ?_); refine wq_load1w (ty := 36) (p := .tmp 17) (g := gs) (i := 0) (v := ?v36) ?hgd36 ?ho36 ?hp36 Try.underlying36 ?hd36 BS.out ?hv36 ?_; (case hd36 => rfl); (case hgd36 => rfl); (case ho36 => rfl); (case hp36 => rfl); (case hv36 => rfl)) | (go_at_call 35; (with_reducible refine (li_point f B12 d12 HLF.out _ (Kd.C_below HRF.out HB.out)).mono ?_); rintro e au1_ ⟨rfl, hbk⟩; have n_HB := Aside0.mk (below_step HB.out hbk); have n_BS := Aside0.mk (blk_below BS.out hbk); have n_BI := Aside0.mk (blk_below BI.out hbk); clear HB BS BI; have HB := n_HB; have BS := n_BS; have BI := n_BI; clear n_HB n_BS n_BI; clear hbk) | ((with_reducible refine gate_dst (N := 21) rfl ?_); refine wq_loadEw (ty := 44) (p := .tmp 20) (k := 13) (ad := ad.add (n * 13)) (vs := [.int .i64 f.f0, .int .i64 f.f1, .int .i64 f.f2, .int .i64 f.f3, .int .i64 f.f4, .int .i64 f.f5.f0, .int .u64 f.f5.f1, .int .u64 f.f5.f2, .int .i64 f.f5.f3, .int .i64 f.f6.f0, .bool f.f6.f1, .int .u64 f.f6.f2, .slice B12 f.f6.f3.length d12]) ?hgd38 ?ho38 ?hp38 Try.underlying44 ?hd38 ?hi38 (cells_bel rfl HB.out HF.out) ?hk38 ?_; (case hd38 => rfl); (case hi38 => kernel_rfl); (case hgd38 => rfl); (case ho38 => rfl); (case hp38 => rfl); (case hk38 => rfl)))
      go_ret
      exact ⟨by rw [HNOP.out (.inr HPT.out)]; rfl, HB.out⟩
    · have HPT := Aside0.mk hpt
      go_enter Try.func31, Try.ntmps31
      go_wp2_with (first | ((with_reducible refine gate_dst (N := 13) rfl ?_); refine wq_load1 (ty := 4) (p := .tmp 12) (g := gi) (i := n) (v := .bool false) ?hgd39 ?ho39 ?hp39 Try.underlying4 ?hd39 BI.out ?hv39 ?_; (case hd39 => rfl); (case hgd39 => rfl); (case ho39 => rfl); (case hp39 => rfl); (case hv39 => exact HJN.out)) | ((with_reducible refine gate_dst (N := 10) rfl ?_); refine wq_load1 (ty := 41) (p := .tmp 9) (g := gs) (i := 1) (v := ?v40) ?hgd40 ?ho40 ?hp40 Try.underlying41 ?hd40 BS.out ?hv40 ?_; (case hd40 => rfl); (case hgd40 => rfl); (case ho40 => rfl); (case hp40 => rfl); (case hv40 => rfl)) | ((with_reducible refine gate_dst (N := 18) rfl ?_); refine wq_load1w (ty := 36) (p := .tmp 17) (g := gs) (i := 0) (v := ?v41) ?hgd41 ?ho41 ?hp41 Try.underlying36 ?hd41 BS.out ?hv41 ?_; (case hd41 => rfl); (case hgd41 => rfl); (case ho41 => rfl); (case hp41 => rfl); (case hv41 => rfl)) | (go_at_call 35; (with_reducible refine (li_point f B12 d12 HLF.out _ (Kd.C_below HRF.out HB.out)).mono ?_); rintro e bu1_ ⟨rfl, hbk⟩; have n_HB := Aside0.mk (below_step HB.out hbk); have n_BS := Aside0.mk (blk_below BS.out hbk); have n_BI := Aside0.mk (blk_below BI.out hbk); clear HB BS BI; have HB := n_HB; have BS := n_BS; have BI := n_BI; clear n_HB n_BS n_BI; clear hbk) | ((with_reducible refine gate_dst (N := 28) rfl ?_); refine wq_load1 (ty := 36) (p := .tmp 27) (g := gs) (i := 0) (v := ?v43) ?hgd43 ?ho43 ?hp43 Try.underlying36 ?hd43 BS.out ?hv43 ?_; (case hd43 => rfl); (case hgd43 => rfl); (case ho43 => rfl); (case hp43 => rfl); (case hv43 => rfl)) | ((with_reducible refine gate_dst (N := 21) rfl ?_); refine wq_loadEw (ty := 44) (p := .tmp 20) (k := 13) (ad := ad.add (n * 13)) (vs := [.int .i64 f.f0, .int .i64 f.f1, .int .i64 f.f2, .int .i64 f.f3, .int .i64 f.f4, .int .i64 f.f5.f0, .int .u64 f.f5.f1, .int .u64 f.f5.f2, .int .i64 f.f5.f3, .int .i64 f.f6.f0, .bool f.f6.f1, .int .u64 f.f6.f2, .slice B12 f.f6.f3.length d12]) ?hgd44 ?ho44 ?hp44 Try.underlying44 ?hd44 ?hi44 (cells_bel rfl HB.out HF.out) ?hk44 ?_; (case hd44 => rfl); (case hi44 => kernel_rfl); (case hgd44 => rfl); (case ho44 => rfl); (case hp44 => rfl); (case hk44 => rfl)))
      clear hpt
      go_loopg [30] h.length (fun kq v30 wr => ∃ (i : Nat), v30 = .int .i64 i ∧ Aside0 (i ≤ h.length) ∧ Aside0 (h.length - i ≤ kq) ∧ Aside0 (∀ j, j < i → readyB h inb n j = false) ∧ Aside0 (wr.heap[gs]? = some (.cells #[.slice (some ad) h.length c0, .slice (some ⟨gi, 0, none⟩) h.length h.length] 64 (0, 0))) ∧ Aside0 (wr.heap[gi]? = some (.cells (inb.map Value.bool).toArray 4 (0, 0))) ∧ Aside0 (Below W.heap.size W wr))
      case atStart => exact ⟨0, rfl, ⟨Nat.zero_le _⟩, ⟨by omega⟩, ⟨fun j hj => by omega⟩, BS, BI, HB⟩
      case round =>
        clear HB BS BI
        obtain ⟨i, rfl, HJ, HK, HW, BS, BI, HB⟩ := hrel
        by_cases hil : i < h.length
        · have hlt : (i : Int) < (h.length : Int) := by omega
          have hi0 : (0 : Int) ≤ (i : Int) := by omega
          have hib : (i : Int) ≤ 1000 := by have := HH.out; omega
          have HIL := Aside0.mk hil
          obtain ⟨ad', A12, c12, eA, hE, hlc, hrc⟩ := ev_at HR.out i hil
          cases eA
          have hI := in_cell inb i (by have := HN.out; omega)
          have hwb := HRP.out i
          generalize rd_T44 h (i : Int) = e at hE hlc hrc hwb
          have HE := Aside0.mk hE
          have HLC := Aside0.mk hlc
          have HRC := Aside0.mk hrc
          clear hE hlc hrc hil
          cases hin : inA inb i
          · rw [hin, Bool.not_false, Bool.true_and] at hwb
            rw [hin] at hI
            have HI := Aside0.mk hI
            clear hI hin
            cases hpt : isPt e
            · rw [hpt, Bool.false_and] at hwb
              have HWB := Aside0.mk hwb
              clear hwb
              go_upto_region 6 with (first | ((with_reducible refine gate_dst (N := 34) rfl ?_); refine wq_loadE (ty := 44) (p := .tmp 33) (k := 13) (ad := ad.add (i * 13)) (vs := [.int .i64 e.f0, .int .i64 e.f1, .int .i64 e.f2, .int .i64 e.f3, .int .i64 e.f4, .int .i64 e.f5.f0, .int .u64 e.f5.f1, .int .u64 e.f5.f2, .int .i64 e.f5.f3, .int .i64 e.f6.f0, .bool e.f6.f1, .int .u64 e.f6.f2, .slice A12 e.f6.f3.length c12]) ?hgd45 ?ho45 ?hp45 Try.underlying44 ?hd45 ?hi45 (cells_bel rfl HB.out HE.out) ?hk45 ?_; (case hd45 => rfl); (case hi45 => kernel_rfl); (case hgd45 => rfl); (case ho45 => rfl); (case hp45 => rfl); (case hk45 => rfl)) | ((with_reducible refine gate_dst (N := 6) rfl ?_); refine box_event ?hg46 (N := 6) ?hd46 (cs := #[.int .i64 0, .int .i64 0, .int .i64 0, .int .i64 0, .int .i64 0, .int .i64 0, .int .u64 0, .int .u64 0, .int .i64 0, .int .i64 0, .bool false, .int .u64 0, .slice none 0 0]) (t := 44) ?hr46 ?_; (case hd46 => rfl); (case hg46 => rfl); (case hr46 => first | (go_simp; done) | (go_simp; rfl)); intro pg10 hg pw1_ hbox hbk; have HGpB10 := Aside0.mk (show gs ≠ pg10 ∧ gi ≠ pg10 ∧ W.heap.size ≤ pg10 from by rw [hg]; have := blk_lt BS.out; have := blk_lt BI.out; have := HB.out.size; omega); have n_HB := Aside0.mk (below_step HB.out hbk); have n_BS := Aside0.mk (blk_below BS.out hbk); have n_BI := Aside0.mk (blk_below BI.out hbk); clear HB BS BI; have HB := n_HB; have BS := n_BS; have BI := n_BI; clear n_HB n_BS n_BI; have pB10 := Aside0.mk hbox; clear hbk hbox hg) | ((with_reducible refine gate_store (p := 6) rfl ?_); refine wq_store (ty := 44) (p := .tmp 6) (x := .tmp 34) (g := pg10) (i := 0) (k := 13) (v := ?v47) (vs := ?vs47) (cs' := ?cs47) ?hgd47 ?hdst47 ?ho47 ?hp47 ?hx47 ?hvc47 ?hi47 ?hk47 ?h147 pB10.out ?hsz47 ?hcs47 ?_; (case hi47 => kernel_rfl); (case hgd47 => rfl); (case hdst47 => rfl); (case ho47 => rfl); (case hp47 => rfl); (case hx47 => go_simp; with_reducible rfl); (case hvc47 => simp only [Value.cells]; with_reducible rfl); (case hk47 => rfl); (case h147 => rfl); (case hsz47 => exact Nat.le_of_ble_eq_true rfl); (case hcs47 => simp only [wqPut, List.setIfInBounds_toArray, List.set_cons_succ, List.set_cons_zero, Nat.reduceAdd]; with_reducible rfl); intro pw2_ hb hgr; have n_HB := Aside0.mk (HB.out.grown hgr HB.out.size (fun k hk => by cases hk; exact HGpB10.out.2.2)); have n_BS := Aside0.mk (wq_blk BS.out hgr HGpB10.out.1); have n_BI := Aside0.mk (wq_blk BI.out hgr HGpB10.out.2.1); have n_pB10 := Aside0.mk hb; clear HB BS BI pB10 hb hgr; have HB := n_HB; have BS := n_BS; have BI := n_BI; have pB10 := n_pB10; clear n_HB n_BS n_BI n_pB10))
              obtain ⟨XBS, hXBS, hb_BS⟩ := wq_name BS.out
              clear BS
              have BS := Aside0.mk hb_BS
              have HXBS := Aside0.mk hXBS
              clear hXBS hb_BS
              obtain ⟨XpB10, hXpB10, hb_pB10⟩ := wq_name pB10.out
              clear pB10
              have pB10 := Aside0.mk hb_pB10
              have HXpB10 := Aside0.mk hXpB10
              clear hXpB10 hb_pB10
              have n_HB := Aside0.mk (below_drew1 HB.out)
              have n_BS := Aside0.mk (blk_drew BS.out)
              have n_BI := Aside0.mk (blk_drew BI.out)
              have n_pB10 := Aside0.mk (blk_drew pB10.out)
              clear HB BS BI pB10
              have HB := n_HB
              have BS := n_BS
              have BI := n_BI
              have pB10 := n_pB10
              clear n_HB n_BS n_BI n_pB10
              refine start_ (n := 23) (S := fun w' => w'.heap[gs]? = some (.cells XBS 64 (0, 0)) ∧ w'.heap[pg10]? = some (.cells XpB10 44 (0, 0)) ∧ w'.heap[gi]? = some (.cells (inb.map Value.bool).toArray 4 (0, 0))) (ds := []) #[false, false, false, false, false, false, false, false, false, false, false, false, false, false, false, false, false, false, false, false, false, false, false] (by kernel_rfl) rfl rfl ⟨BS.out, pB10.out, BI.out⟩ (fun hHeld => ?_); refine with_tabW li_ready.tab6 li_ready.bits6 (fun HT_ HW_ => ?_)
              generalize pw2_.drew = pv3_ at HB BS BI pB10 hHeld ⊢
              refine pure_ (i := 0) (N := some 35) (v := ?_) (a' := ?_) (li_ready_lb 23 1) rfl rfl (any_of HT_.out (by kernel_rfl)) (fun _ _ _ h => h) (Or.inl ⟨by rfl, ?_⟩) ?_ ?_; rotate_left
              · intro w'; go_simp; with_reducible rfl
              rotate_left
              · simp only [Act.put, List.setIfInBounds_toArray, List.set_cons_zero, List.set_cons_succ, i64_w, i32_w]; rfl
              refine pure_ (i := 1) (N := some 36) (v := ?_) (a' := ?_) (li_ready_lb 23 3) rfl rfl (any_of HT_.out (by kernel_rfl)) (fun _ _ _ h => h) (Or.inl ⟨by rfl, ?_⟩) ?_ ?_; rotate_left
              · intro w'; go_simp; with_reducible rfl
              rotate_left
              · simp only [Act.put, List.setIfInBounds_toArray, List.set_cons_zero, List.set_cons_succ, i64_w, i32_w]; rfl
              refine pure_ (i := 2) (N := some 37) (v := ?_) (a' := ?_) (li_ready_lb 23 7) rfl rfl (any_of HT_.out (by kernel_rfl)) (fun _ _ _ h => h) (Or.inl ⟨by rfl, ?_⟩) ?_ ?_; rotate_left
              · intro w'; go_simp; with_reducible rfl
              rotate_left
              · simp only [Act.put, List.setIfInBounds_toArray, List.set_cons_zero, List.set_cons_succ, i64_w, i32_w]; rfl
              refine pure_ (i := 4) (N := some 39) (v := ?_) (a' := ?_) (li_ready_lb 23 23) rfl rfl (any_of HT_.out (by kernel_rfl)) (fun _ _ _ h => h) (Or.inl ⟨by rfl, ?_⟩) ?_ ?_; rotate_left
              · intro w'; go_simp; with_reducible rfl
              rotate_left
              · simp only [Act.put, List.setIfInBounds_toArray, List.set_cons_zero, List.set_cons_succ, i64_w, i32_w]; rfl
              refine take_ (i := 3) (N := some 38) (v := ?_) (a' := ?_) (li_ready_lb 23 31) rfl rfl (take_ofW HT_.out HW_.out (by kernel_rfl)) (fun _ _ _ h => h) (Or.inl ⟨by rfl, ?_⟩) hHeld ?_ ?_; rotate_left
              · rintro w' ⟨s0, s1, s2⟩; refine Eq.trans (wq_run_load1 (ty := 41) (p := .tmp 37) (g := gs) (i := 1) (v := ?v49) ?ho49 ?hp49 Try.underlying41 ?hd49 s0 ?hv49) ?fin49; (case hd49 => rfl); (case ho49 => rfl); (case hp49 => rfl); (case hv49 => rewrite [HXBS.out]; rfl); (case fin49 => with_reducible rfl)
              rotate_left
              · simp only [Act.put, List.setIfInBounds_toArray, List.set_cons_zero, List.set_cons_succ, i64_w, i32_w]; rfl
              refine pure_ (i := 5) (N := some 40) (v := ?_) (a' := ?_) (li_ready_lb 23 63) rfl rfl (any_of HT_.out (by kernel_rfl)) (fun _ _ _ h => h) (Or.inl ⟨by rfl, ?_⟩) ?_ ?_; rotate_left
              · intro w'; go_simp; with_reducible rfl
              rotate_left
              · simp only [Act.put, List.setIfInBounds_toArray, List.set_cons_zero, List.set_cons_succ, i64_w, i32_w]; rfl
              refine take_ (i := 6) (N := some 41) (v := ?_) (a' := ?_) (li_ready_lb 23 127) rfl rfl (take_ofW HT_.out HW_.out (by kernel_rfl)) (fun _ _ _ h => h) (Or.inl ⟨by rfl, ?_⟩) hHeld ?_ ?_; rotate_left
              · rintro w' ⟨s0, s1, s2⟩; refine Eq.trans (wq_run_load1 (ty := 4) (p := .tmp 40) (g := gi) (i := i) (v := .bool false) ?ho50 ?hp50 Try.underlying4 ?hd50 s2 ?hv50) ?fin50; (case hd50 => rfl); (case ho50 => rfl); (case hp50 => rfl); (case hv50 => exact HI.out); (case fin50 => with_reducible rfl)
              rotate_left
              · simp only [Act.put, List.setIfInBounds_toArray, List.set_cons_zero, List.set_cons_succ, i64_w, i32_w]; rfl
              refine pure_ (i := 7) (N := some 42) (v := ?_) (a' := ?_) (li_ready_lb 23 255) rfl rfl (any_of HT_.out (by kernel_rfl)) (fun _ _ _ h => h) (Or.inl ⟨by rfl, ?_⟩) ?_ ?_; rotate_left
              · intro w'; go_simp; with_reducible rfl
              rotate_left
              · simp only [Act.put, List.setIfInBounds_toArray, List.set_cons_zero, List.set_cons_succ, i64_w, i32_w]; rfl
              refine pure_ (i := 8) (N := some 43) (v := ?_) (a' := ?_) (li_ready_lb 23 511) rfl rfl (any_of HT_.out (by kernel_rfl)) (fun _ _ _ h => h) (Or.inl ⟨by rfl, ?_⟩) ?_ ?_; rotate_left
              · intro w'; go_simp; with_reducible rfl
              rotate_left
              · simp only [Act.put, List.setIfInBounds_toArray, List.set_cons_zero, List.set_cons_succ, i64_w, i32_w]; rfl
              refine take_ (i := 9) (N := some 44) (v := ?_) (a' := ?_) (li_ready_lb 23 1023) rfl rfl (take_ofW HT_.out HW_.out (by kernel_rfl)) (fun _ _ _ h => h) (Or.inl ⟨by rfl, ?_⟩) hHeld ?_ ?_; rotate_left
              · rintro w' ⟨s0, s1, s2⟩; refine Eq.trans (wq_run_loadA (ty := 44) (p := .tmp 6) (g := pg10) (i := 0) (k := 13) (vs := ?vs51) ?ho51 ?hp51 Try.underlying44 ?hd51 ?hi51 s1 ?hv51 ?hk51) ?fin51; (case hd51 => rfl); (case hi51 => kernel_rfl); (case ho51 => rfl); (case hp51 => rfl); (case hv51 => rewrite [HXpB10.out]; simp only [List.drop_succ_cons, List.drop_zero, List.take_succ_cons, List.take_zero, List.take_nil, List.drop_nil]; with_reducible rfl); (case hk51 => rfl); (case fin51 => with_reducible rfl)
              rotate_left
              · simp only [Act.put, List.setIfInBounds_toArray, List.set_cons_zero, List.set_cons_succ, i64_w, i32_w]; rfl
              refine one_ (i := 10) (N := some 45) (li_ready_lb 23 2047) rfl rfl (one_of HT_.out (by kernel_rfl)) (by decide) (fun K hK => ?_)
              refine goes_ Try.func35 (by kernel_rfl) rfl ?args48 ?hw48 rfl rfl ?hargs48 ?_
              case hw48 => rfl
              case hargs48 => go_simp; with_reducible rfl
              with_reducible refine (li_point e A12 c12 HLC.out _ (Kd.C_below HRC.out HB.out)).mono ?_
              rintro e pu4_ ⟨rfl, hbk⟩
              refine ⟨_, rfl, ?_⟩
              have n_HB := Aside0.mk (below_step HB.out hbk)
              have n_BS := Aside0.mk (blk_below BS.out hbk)
              have n_BI := Aside0.mk (blk_below BI.out hbk)
              have n_pB10 := Aside0.mk (blk_below pB10.out hbk)
              clear HB BS BI pB10
              have HB := n_HB
              have BS := n_BS
              have BI := n_BI
              have pB10 := n_pB10
              clear n_HB n_BS n_BI n_pB10
              clear hbk
              refine hK.out _ _ ⟨BS.out, pB10.out, BI.out⟩ (fun hHeld => ?_)
              clear hK K
              refine norm_ (a' := ?_) ?_ ?_
              rotate_left
              · show Act.put _ (some 45) _ = _
                simp only [Act.put, List.setIfInBounds_toArray, List.set_cons_zero, List.set_cons_succ, i64_w, i32_w]
                rfl
              refine pure_ (i := 11) (N := some 46) (v := ?_) (a' := ?_) (li_ready_lb 23 4095) rfl rfl (any_of HT_.out (by kernel_rfl)) (fun _ _ _ h => h) (Or.inl ⟨by rfl, ?_⟩) ?_ ?_; rotate_left
              · intro w'; go_simp; with_reducible rfl
              rotate_left
              · simp only [Act.put, List.setIfInBounds_toArray, List.set_cons_zero, List.set_cons_succ, i64_w, i32_w]; rfl
              refine pure_ (i := 12) (N := some 47) (v := ?_) (a' := ?_) (li_ready_lb 23 8191) rfl rfl (any_of HT_.out (by kernel_rfl)) (fun _ _ _ h => h) (Or.inl ⟨by rfl, ?_⟩) ?_ ?_; rotate_left
              · intro w'; go_simp; with_reducible rfl
              rotate_left
              · simp only [Act.put, List.setIfInBounds_toArray, List.set_cons_zero, List.set_cons_succ, i64_w, i32_w]; rfl
              refine pure_ (i := 13) (N := some 48) (v := undef) (a' := ?_) (li_ready_lb 23 16383) rfl rfl (any_of HT_.out (by kernel_rfl)) (fun _ _ _ h => h) (Or.inr ⟨by rfl, rfl⟩) ?_ ?_; rotate_left
              · simp only [Act.put, List.setIfInBounds_toArray, List.set_cons_zero, List.set_cons_succ, i64_w, i32_w]; rfl
              refine pure_ (i := 14) (N := some 49) (v := undef) (a' := ?_) (li_ready_lb 23 32767) rfl rfl (any_of HT_.out (by kernel_rfl)) (fun _ _ _ h => h) (Or.inr ⟨by rfl, rfl⟩) ?_ ?_; rotate_left
              · simp only [Act.put, List.setIfInBounds_toArray, List.set_cons_zero, List.set_cons_succ, i64_w, i32_w]; rfl
              refine pure_ (i := 15) (N := some 50) (v := undef) (a' := ?_) (li_ready_lb 23 65535) rfl rfl (any_of HT_.out (by kernel_rfl)) (fun _ _ _ h => h) (Or.inr ⟨by rfl, rfl⟩) ?_ ?_; rotate_left
              · simp only [Act.put, List.setIfInBounds_toArray, List.set_cons_zero, List.set_cons_succ, i64_w, i32_w]; rfl
              refine pure_ (i := 16) (N := some 51) (v := undef) (a' := ?_) (li_ready_lb 23 131071) rfl rfl (any_of HT_.out (by kernel_rfl)) (fun _ _ _ h => h) (Or.inr ⟨by rfl, rfl⟩) ?_ ?_; rotate_left
              · simp only [Act.put, List.setIfInBounds_toArray, List.set_cons_zero, List.set_cons_succ, i64_w, i32_w]; rfl
              refine pure_ (i := 17) (N := some 52) (v := undef) (a' := ?_) (li_ready_lb 23 262143) rfl rfl (any_of HT_.out (by kernel_rfl)) (fun _ _ _ h => h) (Or.inr ⟨by rfl, rfl⟩) ?_ ?_; rotate_left
              · simp only [Act.put, List.setIfInBounds_toArray, List.set_cons_zero, List.set_cons_succ, i64_w, i32_w]; rfl
              refine pure_ (i := 18) (N := some 53) (v := undef) (a' := ?_) (li_ready_lb 23 524287) rfl rfl (any_of HT_.out (by kernel_rfl)) (fun _ _ _ h => h) (Or.inr ⟨by rfl, rfl⟩) ?_ ?_; rotate_left
              · simp only [Act.put, List.setIfInBounds_toArray, List.set_cons_zero, List.set_cons_succ, i64_w, i32_w]; rfl
              refine pure_ (i := 19) (N := some 54) (v := undef) (a' := ?_) (li_ready_lb 23 1048575) rfl rfl (any_of HT_.out (by kernel_rfl)) (fun _ _ _ h => h) (Or.inr ⟨by rfl, rfl⟩) ?_ ?_; rotate_left
              · simp only [Act.put, List.setIfInBounds_toArray, List.set_cons_zero, List.set_cons_succ, i64_w, i32_w]; rfl
              refine pure_ (i := 20) (N := some 55) (v := undef) (a' := ?_) (li_ready_lb 23 2097151) rfl rfl (any_of HT_.out (by kernel_rfl)) (fun _ _ _ h => h) (Or.inr ⟨by rfl, rfl⟩) ?_ ?_; rotate_left
              · simp only [Act.put, List.setIfInBounds_toArray, List.set_cons_zero, List.set_cons_succ, i64_w, i32_w]; rfl
              refine pure_ (i := 21) (N := some 56) (v := undef) (a' := ?_) (li_ready_lb 23 4194303) rfl rfl (any_of HT_.out (by kernel_rfl)) (fun _ _ _ h => h) (Or.inr ⟨by rfl, rfl⟩) ?_ ?_; rotate_left
              · simp only [Act.put, List.setIfInBounds_toArray, List.set_cons_zero, List.set_cons_succ, i64_w, i32_w]; rfl
              refine pure_ (i := 22) (N := some 57) (v := ?_) (a' := ?_) (li_ready_lb 23 8388607) rfl rfl (any_of HT_.out (by kernel_rfl)) (fun _ _ _ h => h) (Or.inl ⟨by rfl, ?_⟩) ?_ ?_; rotate_left
              · intro w'; go_simp; with_reducible rfl
              rotate_left
              · simp only [Act.put, List.setIfInBounds_toArray, List.set_cons_zero, List.set_cons_succ, i64_w, i32_w]; rfl
              refine done_ (done_of HT_.out (by kernel_rfl)) ?_
              have hX := HXBS.out
              subst hX
              clear HXBS
              have hX := HXpB10.out
              subst hX
              clear HXpB10
              go_wp2
              go_roundg (h.length - (i + 1))
              case measure => have := HIL.out; have := HK.out; omega
              case rel =>
                have hil := HIL.out
                have hh := HH.out
                exact ⟨i + 1, by first | rfl | (rw [show wrap64 ((i : Int) + 1) = ((i + 1 : Nat) : Int) from by unfold wrap64; omega]), ⟨hil⟩, ⟨by omega⟩, ⟨fun j hj => by
                  rcases Nat.lt_or_ge j i with h3 | h3
                  · exact HW.out j h3
                  · have h4 : j = i := by omega
                    subst h4
                    exact HWB.out⟩, BS, BI, HB⟩
            · rw [hpt, Bool.true_and] at hwb
              cases hbf : bef e f
              · rw [hbf] at hwb
                have HWB := Aside0.mk hwb
                clear hwb
                go_upto_region 6 with (first | ((with_reducible refine gate_dst (N := 34) rfl ?_); refine wq_loadE (ty := 44) (p := .tmp 33) (k := 13) (ad := ad.add (i * 13)) (vs := [.int .i64 e.f0, .int .i64 e.f1, .int .i64 e.f2, .int .i64 e.f3, .int .i64 e.f4, .int .i64 e.f5.f0, .int .u64 e.f5.f1, .int .u64 e.f5.f2, .int .i64 e.f5.f3, .int .i64 e.f6.f0, .bool e.f6.f1, .int .u64 e.f6.f2, .slice A12 e.f6.f3.length c12]) ?hgd52 ?ho52 ?hp52 Try.underlying44 ?hd52 ?hi52 (cells_bel rfl HB.out HE.out) ?hk52 ?_; (case hd52 => rfl); (case hi52 => kernel_rfl); (case hgd52 => rfl); (case ho52 => rfl); (case hp52 => rfl); (case hk52 => rfl)) | ((with_reducible refine gate_dst (N := 6) rfl ?_); refine box_event ?hg53 (N := 6) ?hd53 (cs := #[.int .i64 0, .int .i64 0, .int .i64 0, .int .i64 0, .int .i64 0, .int .i64 0, .int .u64 0, .int .u64 0, .int .i64 0, .int .i64 0, .bool false, .int .u64 0, .slice none 0 0]) (t := 44) ?hr53 ?_; (case hd53 => rfl); (case hg53 => rfl); (case hr53 => first | (go_simp; done) | (go_simp; rfl)); intro qg10 hg qw1_ hbox hbk; have HGqB10 := Aside0.mk (show gs ≠ qg10 ∧ gi ≠ qg10 ∧ W.heap.size ≤ qg10 from by rw [hg]; have := blk_lt BS.out; have := blk_lt BI.out; have := HB.out.size; omega); have n_HB := Aside0.mk (below_step HB.out hbk); have n_BS := Aside0.mk (blk_below BS.out hbk); have n_BI := Aside0.mk (blk_below BI.out hbk); clear HB BS BI; have HB := n_HB; have BS := n_BS; have BI := n_BI; clear n_HB n_BS n_BI; have qB10 := Aside0.mk hbox; clear hbk hbox hg) | ((with_reducible refine gate_store (p := 6) rfl ?_); refine wq_store (ty := 44) (p := .tmp 6) (x := .tmp 34) (g := qg10) (i := 0) (k := 13) (v := ?v54) (vs := ?vs54) (cs' := ?cs54) ?hgd54 ?hdst54 ?ho54 ?hp54 ?hx54 ?hvc54 ?hi54 ?hk54 ?h154 qB10.out ?hsz54 ?hcs54 ?_; (case hi54 => kernel_rfl); (case hgd54 => rfl); (case hdst54 => rfl); (case ho54 => rfl); (case hp54 => rfl); (case hx54 => go_simp; with_reducible rfl); (case hvc54 => simp only [Value.cells]; with_reducible rfl); (case hk54 => rfl); (case h154 => rfl); (case hsz54 => exact Nat.le_of_ble_eq_true rfl); (case hcs54 => simp only [wqPut, List.setIfInBounds_toArray, List.set_cons_succ, List.set_cons_zero, Nat.reduceAdd]; with_reducible rfl); intro qw2_ hb hgr; have n_HB := Aside0.mk (HB.out.grown hgr HB.out.size (fun k hk => by cases hk; exact HGqB10.out.2.2)); have n_BS := Aside0.mk (wq_blk BS.out hgr HGqB10.out.1); have n_BI := Aside0.mk (wq_blk BI.out hgr HGqB10.out.2.1); have n_qB10 := Aside0.mk hb; clear HB BS BI qB10 hb hgr; have HB := n_HB; have BS := n_BS; have BI := n_BI; have qB10 := n_qB10; clear n_HB n_BS n_BI n_qB10))
                obtain ⟨XBS, hXBS, hb_BS⟩ := wq_name BS.out
                clear BS
                have BS := Aside0.mk hb_BS
                have HXBS := Aside0.mk hXBS
                clear hXBS hb_BS
                obtain ⟨XqB10, hXqB10, hb_qB10⟩ := wq_name qB10.out
                clear qB10
                have qB10 := Aside0.mk hb_qB10
                have HXqB10 := Aside0.mk hXqB10
                clear hXqB10 hb_qB10
                have n_HB := Aside0.mk (below_drew1 HB.out)
                have n_BS := Aside0.mk (blk_drew BS.out)
                have n_BI := Aside0.mk (blk_drew BI.out)
                have n_qB10 := Aside0.mk (blk_drew qB10.out)
                clear HB BS BI qB10
                have HB := n_HB
                have BS := n_BS
                have BI := n_BI
                have qB10 := n_qB10
                clear n_HB n_BS n_BI n_qB10
                refine start_ (n := 23) (S := fun w' => w'.heap[gs]? = some (.cells XBS 64 (0, 0)) ∧ w'.heap[qg10]? = some (.cells XqB10 44 (0, 0)) ∧ w'.heap[gi]? = some (.cells (inb.map Value.bool).toArray 4 (0, 0)) ∧ ∀ j u, ([.int .i64 f.f0, .int .i64 f.f1, .int .i64 f.f2, .int .i64 f.f3, .int .i64 f.f4, .int .i64 f.f5.f0, .int .u64 f.f5.f1, .int .u64 f.f5.f2, .int .i64 f.f5.f3, .int .i64 f.f6.f0, .bool f.f6.f1, .int .u64 f.f6.f2, .slice B12 f.f6.f3.length d12] : List Value)[j]? = some u → w'.cell? ((ad.add (n * 13)).add j) = some u) (ds := []) #[false, false, false, false, false, false, false, false, false, false, false, false, false, false, false, false, false, false, false, false, false, false, false] (by kernel_rfl) rfl rfl ⟨BS.out, qB10.out, BI.out, (cells_bel rfl HB.out HF.out)⟩ (fun hHeld => ?_); refine with_tabW li_ready.tab6 li_ready.bits6 (fun HT_ HW_ => ?_)
                generalize qw2_.drew = qv3_ at HB BS BI qB10 hHeld ⊢
                refine pure_ (i := 0) (N := some 35) (v := ?_) (a' := ?_) (li_ready_lb 23 1) rfl rfl (any_of HT_.out (by kernel_rfl)) (fun _ _ _ h => h) (Or.inl ⟨by rfl, ?_⟩) ?_ ?_; rotate_left
                · intro w'; go_simp; with_reducible rfl
                rotate_left
                · simp only [Act.put, List.setIfInBounds_toArray, List.set_cons_zero, List.set_cons_succ, i64_w, i32_w]; rfl
                refine pure_ (i := 1) (N := some 36) (v := ?_) (a' := ?_) (li_ready_lb 23 3) rfl rfl (any_of HT_.out (by kernel_rfl)) (fun _ _ _ h => h) (Or.inl ⟨by rfl, ?_⟩) ?_ ?_; rotate_left
                · intro w'; go_simp; with_reducible rfl
                rotate_left
                · simp only [Act.put, List.setIfInBounds_toArray, List.set_cons_zero, List.set_cons_succ, i64_w, i32_w]; rfl
                refine pure_ (i := 2) (N := some 37) (v := ?_) (a' := ?_) (li_ready_lb 23 7) rfl rfl (any_of HT_.out (by kernel_rfl)) (fun _ _ _ h => h) (Or.inl ⟨by rfl, ?_⟩) ?_ ?_; rotate_left
                · intro w'; go_simp; with_reducible rfl
                rotate_left
                · simp only [Act.put, List.setIfInBounds_toArray, List.set_cons_zero, List.set_cons_succ, i64_w, i32_w]; rfl
                refine pure_ (i := 4) (N := some 39) (v := ?_) (a' := ?_) (li_ready_lb 23 23) rfl rfl (any_of HT_.out (by kernel_rfl)) (fun _ _ _ h => h) (Or.inl ⟨by rfl, ?_⟩) ?_ ?_; rotate_left
                · intro w'; go_simp; with_reducible rfl
                rotate_left
                · simp only [Act.put, List.setIfInBounds_toArray, List.set_cons_zero, List.set_cons_succ, i64_w, i32_w]; rfl
                refine take_ (i := 3) (N := some 38) (v := ?_) (a' := ?_) (li_ready_lb 23 31) rfl rfl (take_ofW HT_.out HW_.out (by kernel_rfl)) (fun _ _ _ h => h) (Or.inl ⟨by rfl, ?_⟩) hHeld ?_ ?_; rotate_left
                · rintro w' ⟨s0, s1, s2, s3⟩; refine Eq.trans (wq_run_load1 (ty := 41) (p := .tmp 37) (g := gs) (i := 1) (v := ?v57) ?ho57 ?hp57 Try.underlying41 ?hd57 s0 ?hv57) ?fin57; (case hd57 => rfl); (case ho57 => rfl); (case hp57 => rfl); (case hv57 => rewrite [HXBS.out]; rfl); (case fin57 => with_reducible rfl)
                rotate_left
                · simp only [Act.put, List.setIfInBounds_toArray, List.set_cons_zero, List.set_cons_succ, i64_w, i32_w]; rfl
                refine pure_ (i := 5) (N := some 40) (v := ?_) (a' := ?_) (li_ready_lb 23 63) rfl rfl (any_of HT_.out (by kernel_rfl)) (fun _ _ _ h => h) (Or.inl ⟨by rfl, ?_⟩) ?_ ?_; rotate_left
                · intro w'; go_simp; with_reducible rfl
                rotate_left
                · simp only [Act.put, List.setIfInBounds_toArray, List.set_cons_zero, List.set_cons_succ, i64_w, i32_w]; rfl
                refine take_ (i := 6) (N := some 41) (v := ?_) (a' := ?_) (li_ready_lb 23 127) rfl rfl (take_ofW HT_.out HW_.out (by kernel_rfl)) (fun _ _ _ h => h) (Or.inl ⟨by rfl, ?_⟩) hHeld ?_ ?_; rotate_left
                · rintro w' ⟨s0, s1, s2, s3⟩; refine Eq.trans (wq_run_load1 (ty := 4) (p := .tmp 40) (g := gi) (i := i) (v := .bool false) ?ho58 ?hp58 Try.underlying4 ?hd58 s2 ?hv58) ?fin58; (case hd58 => rfl); (case ho58 => rfl); (case hp58 => rfl); (case hv58 => exact HI.out); (case fin58 => with_reducible rfl)
                rotate_left
                · simp only [Act.put, List.setIfInBounds_toArray, List.set_cons_zero, List.set_cons_succ, i64_w, i32_w]; rfl
                refine pure_ (i := 7) (N := some 42) (v := ?_) (a' := ?_) (li_ready_lb 23 255) rfl rfl (any_of HT_.out (by kernel_rfl)) (fun _ _ _ h => h) (Or.inl ⟨by rfl, ?_⟩) ?_ ?_; rotate_left
                · intro w'; go_simp; with_reducible rfl
                rotate_left
                · simp only [Act.put, List.setIfInBounds_toArray, List.set_cons_zero, List.set_cons_succ, i64_w, i32_w]; rfl
                refine pure_ (i := 8) (N := some 43) (v := ?_) (a' := ?_) (li_ready_lb 23 511) rfl rfl (any_of HT_.out (by kernel_rfl)) (fun _ _ _ h => h) (Or.inl ⟨by rfl, ?_⟩) ?_ ?_; rotate_left
                · intro w'; go_simp; with_reducible rfl
                rotate_left
                · simp only [Act.put, List.setIfInBounds_toArray, List.set_cons_zero, List.set_cons_succ, i64_w, i32_w]; rfl
                refine take_ (i := 9) (N := some 44) (v := ?_) (a' := ?_) (li_ready_lb 23 1023) rfl rfl (take_ofW HT_.out HW_.out (by kernel_rfl)) (fun _ _ _ h => h) (Or.inl ⟨by rfl, ?_⟩) hHeld ?_ ?_; rotate_left
                · rintro w' ⟨s0, s1, s2, s3⟩; refine Eq.trans (wq_run_loadA (ty := 44) (p := .tmp 6) (g := qg10) (i := 0) (k := 13) (vs := ?vs59) ?ho59 ?hp59 Try.underlying44 ?hd59 ?hi59 s1 ?hv59 ?hk59) ?fin59; (case hd59 => rfl); (case hi59 => kernel_rfl); (case ho59 => rfl); (case hp59 => rfl); (case hv59 => rewrite [HXqB10.out]; simp only [List.drop_succ_cons, List.drop_zero, List.take_succ_cons, List.take_zero, List.take_nil, List.drop_nil]; with_reducible rfl); (case hk59 => rfl); (case fin59 => with_reducible rfl)
                rotate_left
                · simp only [Act.put, List.setIfInBounds_toArray, List.set_cons_zero, List.set_cons_succ, i64_w, i32_w]; rfl
                refine one_ (i := 10) (N := some 45) (li_ready_lb 23 2047) rfl rfl (one_of HT_.out (by kernel_rfl)) (by decide) (fun K hK => ?_)
                refine goes_ Try.func35 (by kernel_rfl) rfl ?args55 ?hw55 rfl rfl ?hargs55 ?_
                case hw55 => rfl
                case hargs55 => go_simp; with_reducible rfl
                with_reducible refine (li_point e A12 c12 HLC.out _ (Kd.C_below HRC.out HB.out)).mono ?_
                rintro e qu4_ ⟨rfl, hbk⟩
                refine ⟨_, rfl, ?_⟩
                have n_HB := Aside0.mk (below_step HB.out hbk)
                have n_BS := Aside0.mk (blk_below BS.out hbk)
                have n_BI := Aside0.mk (blk_below BI.out hbk)
                have n_qB10 := Aside0.mk (blk_below qB10.out hbk)
                clear HB BS BI qB10
                have HB := n_HB
                have BS := n_BS
                have BI := n_BI
                have qB10 := n_qB10
                clear n_HB n_BS n_BI n_qB10
                clear hbk
                refine hK.out _ _ ⟨BS.out, qB10.out, BI.out, (cells_bel rfl HB.out HF.out)⟩ (fun hHeld => ?_)
                clear hK K
                refine norm_ (a' := ?_) ?_ ?_
                rotate_left
                · show Act.put _ (some 45) _ = _
                  simp only [Act.put, List.setIfInBounds_toArray, List.set_cons_zero, List.set_cons_succ, i64_w, i32_w]
                  rfl
                refine pure_ (i := 11) (N := some 46) (v := ?_) (a' := ?_) (li_ready_lb 23 4095) rfl rfl (any_of HT_.out (by kernel_rfl)) (fun _ _ _ h => h) (Or.inl ⟨by rfl, ?_⟩) ?_ ?_; rotate_left
                · intro w'; go_simp; with_reducible rfl
                rotate_left
                · simp only [Act.put, List.setIfInBounds_toArray, List.set_cons_zero, List.set_cons_succ, i64_w, i32_w]; rfl
                refine pure_ (i := 12) (N := some 47) (v := ?_) (a' := ?_) (li_ready_lb 23 8191) rfl rfl (any_of HT_.out (by kernel_rfl)) (fun _ _ _ h => h) (Or.inl ⟨by rfl, ?_⟩) ?_ ?_; rotate_left
                · intro w'; go_simp; with_reducible rfl
                rotate_left
                · simp only [Act.put, List.setIfInBounds_toArray, List.set_cons_zero, List.set_cons_succ, i64_w, i32_w]; rfl
                refine pure_ (i := 14) (N := some 49) (v := ?_) (a' := ?_) (li_ready_lb 23 24575) rfl rfl (any_of HT_.out (by kernel_rfl)) (fun _ _ _ h => h) (Or.inl ⟨by rfl, ?_⟩) ?_ ?_; rotate_left
                · intro w'; go_simp; with_reducible rfl
                rotate_left
                · simp only [Act.put, List.setIfInBounds_toArray, List.set_cons_zero, List.set_cons_succ, i64_w, i32_w]; rfl
                refine pure_ (i := 15) (N := some 50) (v := ?_) (a' := ?_) (li_ready_lb 23 57343) rfl rfl (any_of HT_.out (by kernel_rfl)) (fun _ _ _ h => h) (Or.inl ⟨by rfl, ?_⟩) ?_ ?_; rotate_left
                · intro w'; go_simp; with_reducible rfl
                rotate_left
                · simp only [Act.put, List.setIfInBounds_toArray, List.set_cons_zero, List.set_cons_succ, i64_w, i32_w]; rfl
                refine pure_ (i := 16) (N := some 51) (v := ?_) (a' := ?_) (li_ready_lb 23 122879) rfl rfl (any_of HT_.out (by kernel_rfl)) (fun _ _ _ h => h) (Or.inl ⟨by rfl, ?_⟩) ?_ ?_; rotate_left
                · intro w'; go_simp; with_reducible rfl
                rotate_left
                · simp only [Act.put, List.setIfInBounds_toArray, List.set_cons_zero, List.set_cons_succ, i64_w, i32_w]; rfl
                refine pure_ (i := 18) (N := some 53) (v := ?_) (a' := ?_) (li_ready_lb 23 385023) rfl rfl (any_of HT_.out (by kernel_rfl)) (fun _ _ _ h => h) (Or.inl ⟨by rfl, ?_⟩) ?_ ?_; rotate_left
                · intro w'; go_simp; with_reducible rfl
                rotate_left
                · simp only [Act.put, List.setIfInBounds_toArray, List.set_cons_zero, List.set_cons_succ, i64_w, i32_w]; rfl
                refine take_ (i := 13) (N := some 48) (v := ?_) (a' := ?_) (li_ready_lb 23 393215) rfl rfl (take_ofW HT_.out HW_.out (by kernel_rfl)) (fun _ _ _ h => h) (Or.inl ⟨by rfl, ?_⟩) hHeld ?_ ?_; rotate_left
                · rintro w' ⟨s0, s1, s2, s3⟩; refine Eq.trans (wq_run_loadA (ty := 44) (p := .tmp 6) (g := qg10) (i := 0) (k := 13) (vs := ?vs60) ?ho60 ?hp60 Try.underlying44 ?hd60 ?hi60 s1 ?hv60 ?hk60) ?fin60; (case hd60 => rfl); (case hi60 => kernel_rfl); (case ho60 => rfl); (case hp60 => rfl); (case hv60 => rewrite [HXqB10.out]; simp only [List.drop_succ_cons, List.drop_zero, List.take_succ_cons, List.take_zero, List.take_nil, List.drop_nil]; with_reducible rfl); (case hk60 => rfl); (case fin60 => with_reducible rfl)
                rotate_left
                · simp only [Act.put, List.setIfInBounds_toArray, List.set_cons_zero, List.set_cons_succ, i64_w, i32_w]; rfl
                refine take_ (i := 17) (N := some 52) (v := ?_) (a' := ?_) (li_ready_lb 23 524287) rfl rfl (take_ofW HT_.out HW_.out (by kernel_rfl)) (fun _ _ _ h => h) (Or.inl ⟨by rfl, ?_⟩) hHeld ?_ ?_; rotate_left
                · rintro w' ⟨s0, s1, s2, s3⟩; refine Eq.trans (wq_run_load1 (ty := 36) (p := .tmp 51) (g := gs) (i := 0) (v := ?v61) ?ho61 ?hp61 Try.underlying36 ?hd61 s0 ?hv61) ?fin61; (case hd61 => rfl); (case ho61 => rfl); (case hp61 => rfl); (case hv61 => rewrite [HXBS.out]; rfl); (case fin61 => with_reducible rfl)
                rotate_left
                · simp only [Act.put, List.setIfInBounds_toArray, List.set_cons_zero, List.set_cons_succ, i64_w, i32_w]; rfl
                refine pure_ (i := 19) (N := some 54) (v := ?_) (a' := ?_) (li_ready_lb 23 1048575) rfl rfl (any_of HT_.out (by kernel_rfl)) (fun _ _ _ h => h) (Or.inl ⟨by rfl, ?_⟩) ?_ ?_; rotate_left
                · intro w'; go_simp; with_reducible rfl
                rotate_left
                · simp only [Act.put, List.setIfInBounds_toArray, List.set_cons_zero, List.set_cons_succ, i64_w, i32_w]; rfl
                refine take_ (i := 20) (N := some 55) (v := ?_) (a' := ?_) (li_ready_lb 23 2097151) rfl rfl (take_ofW HT_.out HW_.out (by kernel_rfl)) (fun _ _ _ h => h) (Or.inl ⟨by rfl, ?_⟩) hHeld ?_ ?_; rotate_left
                · rintro w' ⟨s0, s1, s2, s3⟩; refine Eq.trans (wq_run_loadE (ty := 44) (p := .tmp 54) (k := 13) (ad := ad.add (n * 13)) (vs := [.int .i64 f.f0, .int .i64 f.f1, .int .i64 f.f2, .int .i64 f.f3, .int .i64 f.f4, .int .i64 f.f5.f0, .int .u64 f.f5.f1, .int .u64 f.f5.f2, .int .i64 f.f5.f3, .int .i64 f.f6.f0, .bool f.f6.f1, .int .u64 f.f6.f2, .slice B12 f.f6.f3.length d12]) ?ho62 ?hp62 Try.underlying44 ?hd62 ?hi62 s3 ?hk62) ?fin62; (case hd62 => rfl); (case hi62 => kernel_rfl); (case ho62 => rfl); (case hp62 => rfl); (case hk62 => rfl); (case fin62 => with_reducible rfl)
                rotate_left
                · simp only [Act.put, List.setIfInBounds_toArray, List.set_cons_zero, List.set_cons_succ, i64_w, i32_w]; rfl
                refine one_ (i := 21) (N := some 56) (li_ready_lb 23 4194303) rfl rfl (one_of HT_.out (by kernel_rfl)) (by decide) (fun K hK => ?_)
                refine goes_ Try.func36 (by kernel_rfl) rfl ?args56 ?hw56 rfl rfl ?hargs56 ?_
                case hw56 => rfl
                case hargs56 => go_simp; with_reducible rfl
                with_reducible refine (li_Before e f A12 B12 c12 d12 HLC.out HLF.out _ (Kd.C_below HRC.out HB.out) (Kd.C_below HRF.out HB.out)).mono ?_
                rintro e qu5_ ⟨rfl, hbk⟩
                refine ⟨_, rfl, ?_⟩
                have n_HB := Aside0.mk (below_step HB.out hbk)
                have n_BS := Aside0.mk (blk_below BS.out hbk)
                have n_BI := Aside0.mk (blk_below BI.out hbk)
                have n_qB10 := Aside0.mk (blk_below qB10.out hbk)
                clear HB BS BI qB10
                have HB := n_HB
                have BS := n_BS
                have BI := n_BI
                have qB10 := n_qB10
                clear n_HB n_BS n_BI n_qB10
                clear hbk
                refine hK.out _ _ ⟨BS.out, qB10.out, BI.out, (cells_bel rfl HB.out HF.out)⟩ (fun hHeld => ?_)
                clear hK K
                refine norm_ (a' := ?_) ?_ ?_
                rotate_left
                · show Act.put _ (some 56) _ = _
                  simp only [Act.put, List.setIfInBounds_toArray, List.set_cons_zero, List.set_cons_succ, i64_w, i32_w]
                  rfl
                refine pure_ (i := 22) (N := some 57) (v := ?_) (a' := ?_) (li_ready_lb 23 8388607) rfl rfl (any_of HT_.out (by kernel_rfl)) (fun _ _ _ h => h) (Or.inl ⟨by rfl, ?_⟩) ?_ ?_; rotate_left
                · intro w'; go_simp; with_reducible rfl
                rotate_left
                · simp only [Act.put, List.setIfInBounds_toArray, List.set_cons_zero, List.set_cons_succ, i64_w, i32_w]; rfl
                refine done_ (done_of HT_.out (by kernel_rfl)) ?_
                have hX := HXBS.out
                subst hX
                clear HXBS
                have hX := HXqB10.out
                subst hX
                clear HXqB10
                go_wp2
                go_roundg (h.length - (i + 1))
                case measure => have := HIL.out; have := HK.out; omega
                case rel =>
                  have hil := HIL.out
                  have hh := HH.out
                  exact ⟨i + 1, by first | rfl | (rw [show wrap64 ((i : Int) + 1) = ((i + 1 : Nat) : Int) from by unfold wrap64; omega]), ⟨hil⟩, ⟨by omega⟩, ⟨fun j hj => by
                    rcases Nat.lt_or_ge j i with h3 | h3
                    · exact HW.out j h3
                    · have h4 : j = i := by omega
                      subst h4
                      exact HWB.out⟩, BS, BI, HB⟩
              · rw [hbf] at hwb
                have HWB := Aside0.mk hwb
                clear hwb
                go_upto_region 6 with (first | ((with_reducible refine gate_dst (N := 34) rfl ?_); refine wq_loadE (ty := 44) (p := .tmp 33) (k := 13) (ad := ad.add (i * 13)) (vs := [.int .i64 e.f0, .int .i64 e.f1, .int .i64 e.f2, .int .i64 e.f3, .int .i64 e.f4, .int .i64 e.f5.f0, .int .u64 e.f5.f1, .int .u64 e.f5.f2, .int .i64 e.f5.f3, .int .i64 e.f6.f0, .bool e.f6.f1, .int .u64 e.f6.f2, .slice A12 e.f6.f3.length c12]) ?hgd63 ?ho63 ?hp63 Try.underlying44 ?hd63 ?hi63 (cells_bel rfl HB.out HE.out) ?hk63 ?_; (case hd63 => rfl); (case hi63 => kernel_rfl); (case hgd63 => rfl); (case ho63 => rfl); (case hp63 => rfl); (case hk63 => rfl)) | ((with_reducible refine gate_dst (N := 6) rfl ?_); refine box_event ?hg64 (N := 6) ?hd64 (cs := #[.int .i64 0, .int .i64 0, .int .i64 0, .int .i64 0, .int .i64 0, .int .i64 0, .int .u64 0, .int .u64 0, .int .i64 0, .int .i64 0, .bool false, .int .u64 0, .slice none 0 0]) (t := 44) ?hr64 ?_; (case hd64 => rfl); (case hg64 => rfl); (case hr64 => first | (go_simp; done) | (go_simp; rfl)); intro rg10 hg rw1_ hbox hbk; have HGrB10 := Aside0.mk (show gs ≠ rg10 ∧ gi ≠ rg10 ∧ W.heap.size ≤ rg10 from by rw [hg]; have := blk_lt BS.out; have := blk_lt BI.out; have := HB.out.size; omega); have n_HB := Aside0.mk (below_step HB.out hbk); have n_BS := Aside0.mk (blk_below BS.out hbk); have n_BI := Aside0.mk (blk_below BI.out hbk); clear HB BS BI; have HB := n_HB; have BS := n_BS; have BI := n_BI; clear n_HB n_BS n_BI; have rB10 := Aside0.mk hbox; clear hbk hbox hg) | ((with_reducible refine gate_store (p := 6) rfl ?_); refine wq_store (ty := 44) (p := .tmp 6) (x := .tmp 34) (g := rg10) (i := 0) (k := 13) (v := ?v65) (vs := ?vs65) (cs' := ?cs65) ?hgd65 ?hdst65 ?ho65 ?hp65 ?hx65 ?hvc65 ?hi65 ?hk65 ?h165 rB10.out ?hsz65 ?hcs65 ?_; (case hi65 => kernel_rfl); (case hgd65 => rfl); (case hdst65 => rfl); (case ho65 => rfl); (case hp65 => rfl); (case hx65 => go_simp; with_reducible rfl); (case hvc65 => simp only [Value.cells]; with_reducible rfl); (case hk65 => rfl); (case h165 => rfl); (case hsz65 => exact Nat.le_of_ble_eq_true rfl); (case hcs65 => simp only [wqPut, List.setIfInBounds_toArray, List.set_cons_succ, List.set_cons_zero, Nat.reduceAdd]; with_reducible rfl); intro rw2_ hb hgr; have n_HB := Aside0.mk (HB.out.grown hgr HB.out.size (fun k hk => by cases hk; exact HGrB10.out.2.2)); have n_BS := Aside0.mk (wq_blk BS.out hgr HGrB10.out.1); have n_BI := Aside0.mk (wq_blk BI.out hgr HGrB10.out.2.1); have n_rB10 := Aside0.mk hb; clear HB BS BI rB10 hb hgr; have HB := n_HB; have BS := n_BS; have BI := n_BI; have rB10 := n_rB10; clear n_HB n_BS n_BI n_rB10))
                obtain ⟨XBS, hXBS, hb_BS⟩ := wq_name BS.out
                clear BS
                have BS := Aside0.mk hb_BS
                have HXBS := Aside0.mk hXBS
                clear hXBS hb_BS
                obtain ⟨XrB10, hXrB10, hb_rB10⟩ := wq_name rB10.out
                clear rB10
                have rB10 := Aside0.mk hb_rB10
                have HXrB10 := Aside0.mk hXrB10
                clear hXrB10 hb_rB10
                have n_HB := Aside0.mk (below_drew1 HB.out)
                have n_BS := Aside0.mk (blk_drew BS.out)
                have n_BI := Aside0.mk (blk_drew BI.out)
                have n_rB10 := Aside0.mk (blk_drew rB10.out)
                clear HB BS BI rB10
                have HB := n_HB
                have BS := n_BS
                have BI := n_BI
                have rB10 := n_rB10
                clear n_HB n_BS n_BI n_rB10
                refine start_ (n := 23) (S := fun w' => w'.heap[gs]? = some (.cells XBS 64 (0, 0)) ∧ w'.heap[rg10]? = some (.cells XrB10 44 (0, 0)) ∧ w'.heap[gi]? = some (.cells (inb.map Value.bool).toArray 4 (0, 0)) ∧ ∀ j u, ([.int .i64 f.f0, .int .i64 f.f1, .int .i64 f.f2, .int .i64 f.f3, .int .i64 f.f4, .int .i64 f.f5.f0, .int .u64 f.f5.f1, .int .u64 f.f5.f2, .int .i64 f.f5.f3, .int .i64 f.f6.f0, .bool f.f6.f1, .int .u64 f.f6.f2, .slice B12 f.f6.f3.length d12] : List Value)[j]? = some u → w'.cell? ((ad.add (n * 13)).add j) = some u) (ds := []) #[false, false, false, false, false, false, false, false, false, false, false, false, false, false, false, false, false, false, false, false, false, false, false] (by kernel_rfl) rfl rfl ⟨BS.out, rB10.out, BI.out, (cells_bel rfl HB.out HF.out)⟩ (fun hHeld => ?_); refine with_tabW li_ready.tab6 li_ready.bits6 (fun HT_ HW_ => ?_)
                generalize rw2_.drew = rv3_ at HB BS BI rB10 hHeld ⊢
                refine pure_ (i := 0) (N := some 35) (v := ?_) (a' := ?_) (li_ready_lb 23 1) rfl rfl (any_of HT_.out (by kernel_rfl)) (fun _ _ _ h => h) (Or.inl ⟨by rfl, ?_⟩) ?_ ?_; rotate_left
                · intro w'; go_simp; with_reducible rfl
                rotate_left
                · simp only [Act.put, List.setIfInBounds_toArray, List.set_cons_zero, List.set_cons_succ, i64_w, i32_w]; rfl
                refine pure_ (i := 1) (N := some 36) (v := ?_) (a' := ?_) (li_ready_lb 23 3) rfl rfl (any_of HT_.out (by kernel_rfl)) (fun _ _ _ h => h) (Or.inl ⟨by rfl, ?_⟩) ?_ ?_; rotate_left
                · intro w'; go_simp; with_reducible rfl
                rotate_left
                · simp only [Act.put, List.setIfInBounds_toArray, List.set_cons_zero, List.set_cons_succ, i64_w, i32_w]; rfl
                refine pure_ (i := 2) (N := some 37) (v := ?_) (a' := ?_) (li_ready_lb 23 7) rfl rfl (any_of HT_.out (by kernel_rfl)) (fun _ _ _ h => h) (Or.inl ⟨by rfl, ?_⟩) ?_ ?_; rotate_left
                · intro w'; go_simp; with_reducible rfl
                rotate_left
                · simp only [Act.put, List.setIfInBounds_toArray, List.set_cons_zero, List.set_cons_succ, i64_w, i32_w]; rfl
                refine pure_ (i := 4) (N := some 39) (v := ?_) (a' := ?_) (li_ready_lb 23 23) rfl rfl (any_of HT_.out (by kernel_rfl)) (fun _ _ _ h => h) (Or.inl ⟨by rfl, ?_⟩) ?_ ?_; rotate_left
                · intro w'; go_simp; with_reducible rfl
                rotate_left
                · simp only [Act.put, List.setIfInBounds_toArray, List.set_cons_zero, List.set_cons_succ, i64_w, i32_w]; rfl
                refine take_ (i := 3) (N := some 38) (v := ?_) (a' := ?_) (li_ready_lb 23 31) rfl rfl (take_ofW HT_.out HW_.out (by kernel_rfl)) (fun _ _ _ h => h) (Or.inl ⟨by rfl, ?_⟩) hHeld ?_ ?_; rotate_left
                · rintro w' ⟨s0, s1, s2, s3⟩; refine Eq.trans (wq_run_load1 (ty := 41) (p := .tmp 37) (g := gs) (i := 1) (v := ?v68) ?ho68 ?hp68 Try.underlying41 ?hd68 s0 ?hv68) ?fin68; (case hd68 => rfl); (case ho68 => rfl); (case hp68 => rfl); (case hv68 => rewrite [HXBS.out]; rfl); (case fin68 => with_reducible rfl)
                rotate_left
                · simp only [Act.put, List.setIfInBounds_toArray, List.set_cons_zero, List.set_cons_succ, i64_w, i32_w]; rfl
                refine pure_ (i := 5) (N := some 40) (v := ?_) (a' := ?_) (li_ready_lb 23 63) rfl rfl (any_of HT_.out (by kernel_rfl)) (fun _ _ _ h => h) (Or.inl ⟨by rfl, ?_⟩) ?_ ?_; rotate_left
                · intro w'; go_simp; with_reducible rfl
                rotate_left
                · simp only [Act.put, List.setIfInBounds_toArray, List.set_cons_zero, List.set_cons_succ, i64_w, i32_w]; rfl
                refine take_ (i := 6) (N := some 41) (v := ?_) (a' := ?_) (li_ready_lb 23 127) rfl rfl (take_ofW HT_.out HW_.out (by kernel_rfl)) (fun _ _ _ h => h) (Or.inl ⟨by rfl, ?_⟩) hHeld ?_ ?_; rotate_left
                · rintro w' ⟨s0, s1, s2, s3⟩; refine Eq.trans (wq_run_load1 (ty := 4) (p := .tmp 40) (g := gi) (i := i) (v := .bool false) ?ho69 ?hp69 Try.underlying4 ?hd69 s2 ?hv69) ?fin69; (case hd69 => rfl); (case ho69 => rfl); (case hp69 => rfl); (case hv69 => exact HI.out); (case fin69 => with_reducible rfl)
                rotate_left
                · simp only [Act.put, List.setIfInBounds_toArray, List.set_cons_zero, List.set_cons_succ, i64_w, i32_w]; rfl
                refine pure_ (i := 7) (N := some 42) (v := ?_) (a' := ?_) (li_ready_lb 23 255) rfl rfl (any_of HT_.out (by kernel_rfl)) (fun _ _ _ h => h) (Or.inl ⟨by rfl, ?_⟩) ?_ ?_; rotate_left
                · intro w'; go_simp; with_reducible rfl
                rotate_left
                · simp only [Act.put, List.setIfInBounds_toArray, List.set_cons_zero, List.set_cons_succ, i64_w, i32_w]; rfl
                refine pure_ (i := 8) (N := some 43) (v := ?_) (a' := ?_) (li_ready_lb 23 511) rfl rfl (any_of HT_.out (by kernel_rfl)) (fun _ _ _ h => h) (Or.inl ⟨by rfl, ?_⟩) ?_ ?_; rotate_left
                · intro w'; go_simp; with_reducible rfl
                rotate_left
                · simp only [Act.put, List.setIfInBounds_toArray, List.set_cons_zero, List.set_cons_succ, i64_w, i32_w]; rfl
                refine take_ (i := 9) (N := some 44) (v := ?_) (a' := ?_) (li_ready_lb 23 1023) rfl rfl (take_ofW HT_.out HW_.out (by kernel_rfl)) (fun _ _ _ h => h) (Or.inl ⟨by rfl, ?_⟩) hHeld ?_ ?_; rotate_left
                · rintro w' ⟨s0, s1, s2, s3⟩; refine Eq.trans (wq_run_loadA (ty := 44) (p := .tmp 6) (g := rg10) (i := 0) (k := 13) (vs := ?vs70) ?ho70 ?hp70 Try.underlying44 ?hd70 ?hi70 s1 ?hv70 ?hk70) ?fin70; (case hd70 => rfl); (case hi70 => kernel_rfl); (case ho70 => rfl); (case hp70 => rfl); (case hv70 => rewrite [HXrB10.out]; simp only [List.drop_succ_cons, List.drop_zero, List.take_succ_cons, List.take_zero, List.take_nil, List.drop_nil]; with_reducible rfl); (case hk70 => rfl); (case fin70 => with_reducible rfl)
                rotate_left
                · simp only [Act.put, List.setIfInBounds_toArray, List.set_cons_zero, List.set_cons_succ, i64_w, i32_w]; rfl
                refine one_ (i := 10) (N := some 45) (li_ready_lb 23 2047) rfl rfl (one_of HT_.out (by kernel_rfl)) (by decide) (fun K hK => ?_)
                refine goes_ Try.func35 (by kernel_rfl) rfl ?args66 ?hw66 rfl rfl ?hargs66 ?_
                case hw66 => rfl
                case hargs66 => go_simp; with_reducible rfl
                with_reducible refine (li_point e A12 c12 HLC.out _ (Kd.C_below HRC.out HB.out)).mono ?_
                rintro e ru4_ ⟨rfl, hbk⟩
                refine ⟨_, rfl, ?_⟩
                have n_HB := Aside0.mk (below_step HB.out hbk)
                have n_BS := Aside0.mk (blk_below BS.out hbk)
                have n_BI := Aside0.mk (blk_below BI.out hbk)
                have n_rB10 := Aside0.mk (blk_below rB10.out hbk)
                clear HB BS BI rB10
                have HB := n_HB
                have BS := n_BS
                have BI := n_BI
                have rB10 := n_rB10
                clear n_HB n_BS n_BI n_rB10
                clear hbk
                refine hK.out _ _ ⟨BS.out, rB10.out, BI.out, (cells_bel rfl HB.out HF.out)⟩ (fun hHeld => ?_)
                clear hK K
                refine norm_ (a' := ?_) ?_ ?_
                rotate_left
                · show Act.put _ (some 45) _ = _
                  simp only [Act.put, List.setIfInBounds_toArray, List.set_cons_zero, List.set_cons_succ, i64_w, i32_w]
                  rfl
                refine pure_ (i := 11) (N := some 46) (v := ?_) (a' := ?_) (li_ready_lb 23 4095) rfl rfl (any_of HT_.out (by kernel_rfl)) (fun _ _ _ h => h) (Or.inl ⟨by rfl, ?_⟩) ?_ ?_; rotate_left
                · intro w'; go_simp; with_reducible rfl
                rotate_left
                · simp only [Act.put, List.setIfInBounds_toArray, List.set_cons_zero, List.set_cons_succ, i64_w, i32_w]; rfl
                refine pure_ (i := 12) (N := some 47) (v := ?_) (a' := ?_) (li_ready_lb 23 8191) rfl rfl (any_of HT_.out (by kernel_rfl)) (fun _ _ _ h => h) (Or.inl ⟨by rfl, ?_⟩) ?_ ?_; rotate_left
                · intro w'; go_simp; with_reducible rfl
                rotate_left
                · simp only [Act.put, List.setIfInBounds_toArray, List.set_cons_zero, List.set_cons_succ, i64_w, i32_w]; rfl
                refine pure_ (i := 14) (N := some 49) (v := ?_) (a' := ?_) (li_ready_lb 23 24575) rfl rfl (any_of HT_.out (by kernel_rfl)) (fun _ _ _ h => h) (Or.inl ⟨by rfl, ?_⟩) ?_ ?_; rotate_left
                · intro w'; go_simp; with_reducible rfl
                rotate_left
                · simp only [Act.put, List.setIfInBounds_toArray, List.set_cons_zero, List.set_cons_succ, i64_w, i32_w]; rfl
                refine pure_ (i := 15) (N := some 50) (v := ?_) (a' := ?_) (li_ready_lb 23 57343) rfl rfl (any_of HT_.out (by kernel_rfl)) (fun _ _ _ h => h) (Or.inl ⟨by rfl, ?_⟩) ?_ ?_; rotate_left
                · intro w'; go_simp; with_reducible rfl
                rotate_left
                · simp only [Act.put, List.setIfInBounds_toArray, List.set_cons_zero, List.set_cons_succ, i64_w, i32_w]; rfl
                refine pure_ (i := 16) (N := some 51) (v := ?_) (a' := ?_) (li_ready_lb 23 122879) rfl rfl (any_of HT_.out (by kernel_rfl)) (fun _ _ _ h => h) (Or.inl ⟨by rfl, ?_⟩) ?_ ?_; rotate_left
                · intro w'; go_simp; with_reducible rfl
                rotate_left
                · simp only [Act.put, List.setIfInBounds_toArray, List.set_cons_zero, List.set_cons_succ, i64_w, i32_w]; rfl
                refine pure_ (i := 18) (N := some 53) (v := ?_) (a' := ?_) (li_ready_lb 23 385023) rfl rfl (any_of HT_.out (by kernel_rfl)) (fun _ _ _ h => h) (Or.inl ⟨by rfl, ?_⟩) ?_ ?_; rotate_left
                · intro w'; go_simp; with_reducible rfl
                rotate_left
                · simp only [Act.put, List.setIfInBounds_toArray, List.set_cons_zero, List.set_cons_succ, i64_w, i32_w]; rfl
                refine take_ (i := 13) (N := some 48) (v := ?_) (a' := ?_) (li_ready_lb 23 393215) rfl rfl (take_ofW HT_.out HW_.out (by kernel_rfl)) (fun _ _ _ h => h) (Or.inl ⟨by rfl, ?_⟩) hHeld ?_ ?_; rotate_left
                · rintro w' ⟨s0, s1, s2, s3⟩; refine Eq.trans (wq_run_loadA (ty := 44) (p := .tmp 6) (g := rg10) (i := 0) (k := 13) (vs := ?vs71) ?ho71 ?hp71 Try.underlying44 ?hd71 ?hi71 s1 ?hv71 ?hk71) ?fin71; (case hd71 => rfl); (case hi71 => kernel_rfl); (case ho71 => rfl); (case hp71 => rfl); (case hv71 => rewrite [HXrB10.out]; simp only [List.drop_succ_cons, List.drop_zero, List.take_succ_cons, List.take_zero, List.take_nil, List.drop_nil]; with_reducible rfl); (case hk71 => rfl); (case fin71 => with_reducible rfl)
                rotate_left
                · simp only [Act.put, List.setIfInBounds_toArray, List.set_cons_zero, List.set_cons_succ, i64_w, i32_w]; rfl
                refine take_ (i := 17) (N := some 52) (v := ?_) (a' := ?_) (li_ready_lb 23 524287) rfl rfl (take_ofW HT_.out HW_.out (by kernel_rfl)) (fun _ _ _ h => h) (Or.inl ⟨by rfl, ?_⟩) hHeld ?_ ?_; rotate_left
                · rintro w' ⟨s0, s1, s2, s3⟩; refine Eq.trans (wq_run_load1 (ty := 36) (p := .tmp 51) (g := gs) (i := 0) (v := ?v72) ?ho72 ?hp72 Try.underlying36 ?hd72 s0 ?hv72) ?fin72; (case hd72 => rfl); (case ho72 => rfl); (case hp72 => rfl); (case hv72 => rewrite [HXBS.out]; rfl); (case fin72 => with_reducible rfl)
                rotate_left
                · simp only [Act.put, List.setIfInBounds_toArray, List.set_cons_zero, List.set_cons_succ, i64_w, i32_w]; rfl
                refine pure_ (i := 19) (N := some 54) (v := ?_) (a' := ?_) (li_ready_lb 23 1048575) rfl rfl (any_of HT_.out (by kernel_rfl)) (fun _ _ _ h => h) (Or.inl ⟨by rfl, ?_⟩) ?_ ?_; rotate_left
                · intro w'; go_simp; with_reducible rfl
                rotate_left
                · simp only [Act.put, List.setIfInBounds_toArray, List.set_cons_zero, List.set_cons_succ, i64_w, i32_w]; rfl
                refine take_ (i := 20) (N := some 55) (v := ?_) (a' := ?_) (li_ready_lb 23 2097151) rfl rfl (take_ofW HT_.out HW_.out (by kernel_rfl)) (fun _ _ _ h => h) (Or.inl ⟨by rfl, ?_⟩) hHeld ?_ ?_; rotate_left
                · rintro w' ⟨s0, s1, s2, s3⟩; refine Eq.trans (wq_run_loadE (ty := 44) (p := .tmp 54) (k := 13) (ad := ad.add (n * 13)) (vs := [.int .i64 f.f0, .int .i64 f.f1, .int .i64 f.f2, .int .i64 f.f3, .int .i64 f.f4, .int .i64 f.f5.f0, .int .u64 f.f5.f1, .int .u64 f.f5.f2, .int .i64 f.f5.f3, .int .i64 f.f6.f0, .bool f.f6.f1, .int .u64 f.f6.f2, .slice B12 f.f6.f3.length d12]) ?ho73 ?hp73 Try.underlying44 ?hd73 ?hi73 s3 ?hk73) ?fin73; (case hd73 => rfl); (case hi73 => kernel_rfl); (case ho73 => rfl); (case hp73 => rfl); (case hk73 => rfl); (case fin73 => with_reducible rfl)
                rotate_left
                · simp only [Act.put, List.setIfInBounds_toArray, List.set_cons_zero, List.set_cons_succ, i64_w, i32_w]; rfl
                refine one_ (i := 21) (N := some 56) (li_ready_lb 23 4194303) rfl rfl (one_of HT_.out (by kernel_rfl)) (by decide) (fun K hK => ?_)
                refine goes_ Try.func36 (by kernel_rfl) rfl ?args67 ?hw67 rfl rfl ?hargs67 ?_
                case hw67 => rfl
                case hargs67 => go_simp; with_reducible rfl
                with_reducible refine (li_Before e f A12 B12 c12 d12 HLC.out HLF.out _ (Kd.C_below HRC.out HB.out) (Kd.C_below HRF.out HB.out)).mono ?_
                rintro e ru5_ ⟨rfl, hbk⟩
                refine ⟨_, rfl, ?_⟩
                have n_HB := Aside0.mk (below_step HB.out hbk)
                have n_BS := Aside0.mk (blk_below BS.out hbk)
                have n_BI := Aside0.mk (blk_below BI.out hbk)
                have n_rB10 := Aside0.mk (blk_below rB10.out hbk)
                clear HB BS BI rB10
                have HB := n_HB
                have BS := n_BS
                have BI := n_BI
                have rB10 := n_rB10
                clear n_HB n_BS n_BI n_rB10
                clear hbk
                refine hK.out _ _ ⟨BS.out, rB10.out, BI.out, (cells_bel rfl HB.out HF.out)⟩ (fun hHeld => ?_)
                clear hK K
                refine norm_ (a' := ?_) ?_ ?_
                rotate_left
                · show Act.put _ (some 56) _ = _
                  simp only [Act.put, List.setIfInBounds_toArray, List.set_cons_zero, List.set_cons_succ, i64_w, i32_w]
                  rfl
                refine pure_ (i := 22) (N := some 57) (v := ?_) (a' := ?_) (li_ready_lb 23 8388607) rfl rfl (any_of HT_.out (by kernel_rfl)) (fun _ _ _ h => h) (Or.inl ⟨by rfl, ?_⟩) ?_ ?_; rotate_left
                · intro w'; go_simp; with_reducible rfl
                rotate_left
                · simp only [Act.put, List.setIfInBounds_toArray, List.set_cons_zero, List.set_cons_succ, i64_w, i32_w]; rfl
                refine done_ (done_of HT_.out (by kernel_rfl)) ?_
                have hX := HXBS.out
                subst hX
                clear HXBS
                have hX := HXrB10.out
                subst hX
                clear HXrB10
                go_wp2
                go_ret
                exact ⟨by rw [readyP_no HIL.out HWB.out]; rfl, HB.out⟩
          · rw [hin, Bool.not_true, Bool.false_and, Bool.false_and] at hwb
            rw [hin] at hI
            have HI := Aside0.mk hI
            have HWB := Aside0.mk hwb
            clear hI hin hwb
            go_upto_region 6 with (first | ((with_reducible refine gate_dst (N := 34) rfl ?_); refine wq_loadE (ty := 44) (p := .tmp 33) (k := 13) (ad := ad.add (i * 13)) (vs := [.int .i64 e.f0, .int .i64 e.f1, .int .i64 e.f2, .int .i64 e.f3, .int .i64 e.f4, .int .i64 e.f5.f0, .int .u64 e.f5.f1, .int .u64 e.f5.f2, .int .i64 e.f5.f3, .int .i64 e.f6.f0, .bool e.f6.f1, .int .u64 e.f6.f2, .slice A12 e.f6.f3.length c12]) ?hgd74 ?ho74 ?hp74 Try.underlying44 ?hd74 ?hi74 (cells_bel rfl HB.out HE.out) ?hk74 ?_; (case hd74 => rfl); (case hi74 => kernel_rfl); (case hgd74 => rfl); (case ho74 => rfl); (case hp74 => rfl); (case hk74 => rfl)) | ((with_reducible refine gate_dst (N := 6) rfl ?_); refine box_event ?hg75 (N := 6) ?hd75 (cs := #[.int .i64 0, .int .i64 0, .int .i64 0, .int .i64 0, .int .i64 0, .int .i64 0, .int .u64 0, .int .u64 0, .int .i64 0, .int .i64 0, .bool false, .int .u64 0, .slice none 0 0]) (t := 44) ?hr75 ?_; (case hd75 => rfl); (case hg75 => rfl); (case hr75 => first | (go_simp; done) | (go_simp; rfl)); intro sg10 hg sw1_ hbox hbk; have HGsB10 := Aside0.mk (show gs ≠ sg10 ∧ gi ≠ sg10 ∧ W.heap.size ≤ sg10 from by rw [hg]; have := blk_lt BS.out; have := blk_lt BI.out; have := HB.out.size; omega); have n_HB := Aside0.mk (below_step HB.out hbk); have n_BS := Aside0.mk (blk_below BS.out hbk); have n_BI := Aside0.mk (blk_below BI.out hbk); clear HB BS BI; have HB := n_HB; have BS := n_BS; have BI := n_BI; clear n_HB n_BS n_BI; have sB10 := Aside0.mk hbox; clear hbk hbox hg) | ((with_reducible refine gate_store (p := 6) rfl ?_); refine wq_store (ty := 44) (p := .tmp 6) (x := .tmp 34) (g := sg10) (i := 0) (k := 13) (v := ?v76) (vs := ?vs76) (cs' := ?cs76) ?hgd76 ?hdst76 ?ho76 ?hp76 ?hx76 ?hvc76 ?hi76 ?hk76 ?h176 sB10.out ?hsz76 ?hcs76 ?_; (case hi76 => kernel_rfl); (case hgd76 => rfl); (case hdst76 => rfl); (case ho76 => rfl); (case hp76 => rfl); (case hx76 => go_simp; with_reducible rfl); (case hvc76 => simp only [Value.cells]; with_reducible rfl); (case hk76 => rfl); (case h176 => rfl); (case hsz76 => exact Nat.le_of_ble_eq_true rfl); (case hcs76 => simp only [wqPut, List.setIfInBounds_toArray, List.set_cons_succ, List.set_cons_zero, Nat.reduceAdd]; with_reducible rfl); intro sw2_ hb hgr; have n_HB := Aside0.mk (HB.out.grown hgr HB.out.size (fun k hk => by cases hk; exact HGsB10.out.2.2)); have n_BS := Aside0.mk (wq_blk BS.out hgr HGsB10.out.1); have n_BI := Aside0.mk (wq_blk BI.out hgr HGsB10.out.2.1); have n_sB10 := Aside0.mk hb; clear HB BS BI sB10 hb hgr; have HB := n_HB; have BS := n_BS; have BI := n_BI; have sB10 := n_sB10; clear n_HB n_BS n_BI n_sB10))
            obtain ⟨XBS, hXBS, hb_BS⟩ := wq_name BS.out
            clear BS
            have BS := Aside0.mk hb_BS
            have HXBS := Aside0.mk hXBS
            clear hXBS hb_BS
            have n_HB := Aside0.mk (below_drew1 HB.out)
            have n_BS := Aside0.mk (blk_drew BS.out)
            have n_BI := Aside0.mk (blk_drew BI.out)
            have n_sB10 := Aside0.mk (blk_drew sB10.out)
            clear HB BS BI sB10
            have HB := n_HB
            have BS := n_BS
            have BI := n_BI
            have sB10 := n_sB10
            clear n_HB n_BS n_BI n_sB10
            refine start_ (n := 23) (S := fun w' => w'.heap[gs]? = some (.cells XBS 64 (0, 0)) ∧ w'.heap[gi]? = some (.cells (inb.map Value.bool).toArray 4 (0, 0))) (ds := []) #[false, false, false, false, false, false, false, false, false, false, false, false, false, false, false, false, false, false, false, false, false, false, false] (by kernel_rfl) rfl rfl ⟨BS.out, BI.out⟩ (fun hHeld => ?_); refine with_tabW li_ready.tab6 li_ready.bits6 (fun HT_ HW_ => ?_)
            generalize sw2_.drew = sv3_ at HB BS BI sB10 hHeld ⊢
            refine pure_ (i := 0) (N := some 35) (v := ?_) (a' := ?_) (li_ready_lb 23 1) rfl rfl (any_of HT_.out (by kernel_rfl)) (fun _ _ _ h => h) (Or.inl ⟨by rfl, ?_⟩) ?_ ?_; rotate_left
            · intro w'; go_simp; with_reducible rfl
            rotate_left
            · simp only [Act.put, List.setIfInBounds_toArray, List.set_cons_zero, List.set_cons_succ, i64_w, i32_w]; rfl
            refine pure_ (i := 1) (N := some 36) (v := ?_) (a' := ?_) (li_ready_lb 23 3) rfl rfl (any_of HT_.out (by kernel_rfl)) (fun _ _ _ h => h) (Or.inl ⟨by rfl, ?_⟩) ?_ ?_; rotate_left
            · intro w'; go_simp; with_reducible rfl
            rotate_left
            · simp only [Act.put, List.setIfInBounds_toArray, List.set_cons_zero, List.set_cons_succ, i64_w, i32_w]; rfl
            refine pure_ (i := 2) (N := some 37) (v := ?_) (a' := ?_) (li_ready_lb 23 7) rfl rfl (any_of HT_.out (by kernel_rfl)) (fun _ _ _ h => h) (Or.inl ⟨by rfl, ?_⟩) ?_ ?_; rotate_left
            · intro w'; go_simp; with_reducible rfl
            rotate_left
            · simp only [Act.put, List.setIfInBounds_toArray, List.set_cons_zero, List.set_cons_succ, i64_w, i32_w]; rfl
            refine pure_ (i := 4) (N := some 39) (v := ?_) (a' := ?_) (li_ready_lb 23 23) rfl rfl (any_of HT_.out (by kernel_rfl)) (fun _ _ _ h => h) (Or.inl ⟨by rfl, ?_⟩) ?_ ?_; rotate_left
            · intro w'; go_simp; with_reducible rfl
            rotate_left
            · simp only [Act.put, List.setIfInBounds_toArray, List.set_cons_zero, List.set_cons_succ, i64_w, i32_w]; rfl
            refine take_ (i := 3) (N := some 38) (v := ?_) (a' := ?_) (li_ready_lb 23 31) rfl rfl (take_ofW HT_.out HW_.out (by kernel_rfl)) (fun _ _ _ h => h) (Or.inl ⟨by rfl, ?_⟩) hHeld ?_ ?_; rotate_left
            · rintro w' ⟨s0, s1⟩; refine Eq.trans (wq_run_load1 (ty := 41) (p := .tmp 37) (g := gs) (i := 1) (v := ?v77) ?ho77 ?hp77 Try.underlying41 ?hd77 s0 ?hv77) ?fin77; (case hd77 => rfl); (case ho77 => rfl); (case hp77 => rfl); (case hv77 => rewrite [HXBS.out]; rfl); (case fin77 => with_reducible rfl)
            rotate_left
            · simp only [Act.put, List.setIfInBounds_toArray, List.set_cons_zero, List.set_cons_succ, i64_w, i32_w]; rfl
            refine pure_ (i := 5) (N := some 40) (v := ?_) (a' := ?_) (li_ready_lb 23 63) rfl rfl (any_of HT_.out (by kernel_rfl)) (fun _ _ _ h => h) (Or.inl ⟨by rfl, ?_⟩) ?_ ?_; rotate_left
            · intro w'; go_simp; with_reducible rfl
            rotate_left
            · simp only [Act.put, List.setIfInBounds_toArray, List.set_cons_zero, List.set_cons_succ, i64_w, i32_w]; rfl
            refine take_ (i := 6) (N := some 41) (v := ?_) (a' := ?_) (li_ready_lb 23 127) rfl rfl (take_ofW HT_.out HW_.out (by kernel_rfl)) (fun _ _ _ h => h) (Or.inl ⟨by rfl, ?_⟩) hHeld ?_ ?_; rotate_left
            · rintro w' ⟨s0, s1⟩; refine Eq.trans (wq_run_load1 (ty := 4) (p := .tmp 40) (g := gi) (i := i) (v := .bool true) ?ho78 ?hp78 Try.underlying4 ?hd78 s1 ?hv78) ?fin78; (case hd78 => rfl); (case ho78 => rfl); (case hp78 => rfl); (case hv78 => exact HI.out); (case fin78 => with_reducible rfl)
            rotate_left
            · simp only [Act.put, List.setIfInBounds_toArray, List.set_cons_zero, List.set_cons_succ, i64_w, i32_w]; rfl
            refine pure_ (i := 7) (N := some 42) (v := ?_) (a' := ?_) (li_ready_lb 23 255) rfl rfl (any_of HT_.out (by kernel_rfl)) (fun _ _ _ h => h) (Or.inl ⟨by rfl, ?_⟩) ?_ ?_; rotate_left
            · intro w'; go_simp; with_reducible rfl
            rotate_left
            · simp only [Act.put, List.setIfInBounds_toArray, List.set_cons_zero, List.set_cons_succ, i64_w, i32_w]; rfl
            refine pure_ (i := 8) (N := some 43) (v := ?_) (a' := ?_) (li_ready_lb 23 511) rfl rfl (any_of HT_.out (by kernel_rfl)) (fun _ _ _ h => h) (Or.inl ⟨by rfl, ?_⟩) ?_ ?_; rotate_left
            · intro w'; go_simp; with_reducible rfl
            rotate_left
            · simp only [Act.put, List.setIfInBounds_toArray, List.set_cons_zero, List.set_cons_succ, i64_w, i32_w]; rfl
            refine pure_ (i := 9) (N := some 44) (v := undef) (a' := ?_) (li_ready_lb 23 1023) rfl rfl (any_of HT_.out (by kernel_rfl)) (fun _ _ _ h => h) (Or.inr ⟨by rfl, rfl⟩) ?_ ?_; rotate_left
            · simp only [Act.put, List.setIfInBounds_toArray, List.set_cons_zero, List.set_cons_succ, i64_w, i32_w]; rfl
            refine pure_ (i := 10) (N := some 45) (v := undef) (a' := ?_) (li_ready_lb 23 2047) rfl rfl (any_of HT_.out (by kernel_rfl)) (fun _ _ _ h => h) (Or.inr ⟨by rfl, rfl⟩) ?_ ?_; rotate_left
            · simp only [Act.put, List.setIfInBounds_toArray, List.set_cons_zero, List.set_cons_succ, i64_w, i32_w]; rfl
            refine pure_ (i := 11) (N := some 46) (v := ?_) (a' := ?_) (li_ready_lb 23 4095) rfl rfl (any_of HT_.out (by kernel_rfl)) (fun _ _ _ h => h) (Or.inl ⟨by rfl, ?_⟩) ?_ ?_; rotate_left
            · intro w'; go_simp; with_reducible rfl
            rotate_left
            · simp only [Act.put, List.setIfInBounds_toArray, List.set_cons_zero, List.set_cons_succ, i64_w, i32_w]; rfl
            refine pure_ (i := 12) (N := some 47) (v := ?_) (a' := ?_) (li_ready_lb 23 8191) rfl rfl (any_of HT_.out (by kernel_rfl)) (fun _ _ _ h => h) (Or.inl ⟨by rfl, ?_⟩) ?_ ?_; rotate_left
            · intro w'; go_simp; with_reducible rfl
            rotate_left
            · simp only [Act.put, List.setIfInBounds_toArray, List.set_cons_zero, List.set_cons_succ, i64_w, i32_w]; rfl
            refine pure_ (i := 13) (N := some 48) (v := undef) (a' := ?_) (li_ready_lb 23 16383) rfl rfl (any_of HT_.out (by kernel_rfl)) (fun _ _ _ h => h) (Or.inr ⟨by rfl, rfl⟩) ?_ ?_; rotate_left
            · simp only [Act.put, List.setIfInBounds_toArray, List.set_cons_zero, List.set_cons_succ, i64_w, i32_w]; rfl
            refine pure_ (i := 14) (N := some 49) (v := undef) (a' := ?_) (li_ready_lb 23 32767) rfl rfl (any_of HT_.out (by kernel_rfl)) (fun _ _ _ h => h) (Or.inr ⟨by rfl, rfl⟩) ?_ ?_; rotate_left
            · simp only [Act.put, List.setIfInBounds_toArray, List.set_cons_zero, List.set_cons_succ, i64_w, i32_w]; rfl
            refine pure_ (i := 15) (N := some 50) (v := undef) (a' := ?_) (li_ready_lb 23 65535) rfl rfl (any_of HT_.out (by kernel_rfl)) (fun _ _ _ h => h) (Or.inr ⟨by rfl, rfl⟩) ?_ ?_; rotate_left
            · simp only [Act.put, List.setIfInBounds_toArray, List.set_cons_zero, List.set_cons_succ, i64_w, i32_w]; rfl
            refine pure_ (i := 16) (N := some 51) (v := undef) (a' := ?_) (li_ready_lb 23 131071) rfl rfl (any_of HT_.out (by kernel_rfl)) (fun _ _ _ h => h) (Or.inr ⟨by rfl, rfl⟩) ?_ ?_; rotate_left
            · simp only [Act.put, List.setIfInBounds_toArray, List.set_cons_zero, List.set_cons_succ, i64_w, i32_w]; rfl
            refine pure_ (i := 17) (N := some 52) (v := undef) (a' := ?_) (li_ready_lb 23 262143) rfl rfl (any_of HT_.out (by kernel_rfl)) (fun _ _ _ h => h) (Or.inr ⟨by rfl, rfl⟩) ?_ ?_; rotate_left
            · simp only [Act.put, List.setIfInBounds_toArray, List.set_cons_zero, List.set_cons_succ, i64_w, i32_w]; rfl
            refine pure_ (i := 18) (N := some 53) (v := undef) (a' := ?_) (li_ready_lb 23 524287) rfl rfl (any_of HT_.out (by kernel_rfl)) (fun _ _ _ h => h) (Or.inr ⟨by rfl, rfl⟩) ?_ ?_; rotate_left
            · simp only [Act.put, List.setIfInBounds_toArray, List.set_cons_zero, List.set_cons_succ, i64_w, i32_w]; rfl
            refine pure_ (i := 19) (N := some 54) (v := undef) (a' := ?_) (li_ready_lb 23 1048575) rfl rfl (any_of HT_.out (by kernel_rfl)) (fun _ _ _ h => h) (Or.inr ⟨by rfl, rfl⟩) ?_ ?_; rotate_left
            · simp only [Act.put, List.setIfInBounds_toArray, List.set_cons_zero, List.set_cons_succ, i64_w, i32_w]; rfl
            refine pure_ (i := 20) (N := some 55) (v := undef) (a' := ?_) (li_ready_lb 23 2097151) rfl rfl (any_of HT_.out (by kernel_rfl)) (fun _ _ _ h => h) (Or.inr ⟨by rfl, rfl⟩) ?_ ?_; rotate_left
            · simp only [Act.put, List.setIfInBounds_toArray, List.set_cons_zero, List.set_cons_succ, i64_w, i32_w]; rfl
            refine pure_ (i := 21) (N := some 56) (v := undef) (a' := ?_) (li_ready_lb 23 4194303) rfl rfl (any_of HT_.out (by kernel_rfl)) (fun _ _ _ h => h) (Or.inr ⟨by rfl, rfl⟩) ?_ ?_; rotate_left
            · simp only [Act.put, List.setIfInBounds_toArray, List.set_cons_zero, List.set_cons_succ, i64_w, i32_w]; rfl
            refine pure_ (i := 22) (N := some 57) (v := ?_) (a' := ?_) (li_ready_lb 23 8388607) rfl rfl (any_of HT_.out (by kernel_rfl)) (fun _ _ _ h => h) (Or.inl ⟨by rfl, ?_⟩) ?_ ?_; rotate_left
            · intro w'; go_simp; with_reducible rfl
            rotate_left
            · simp only [Act.put, List.setIfInBounds_toArray, List.set_cons_zero, List.set_cons_succ, i64_w, i32_w]; rfl
            refine done_ (done_of HT_.out (by kernel_rfl)) ?_
            have hX := HXBS.out
            subst hX
            clear HXBS
            go_wp2
            go_roundg (h.length - (i + 1))
            case measure => have := HIL.out; have := HK.out; omega
            case rel =>
              have hil := HIL.out
              have hh := HH.out
              exact ⟨i + 1, by first | rfl | (rw [show wrap64 ((i : Int) + 1) = ((i + 1 : Nat) : Int) from by unfold wrap64; omega]), ⟨hil⟩, ⟨by omega⟩, ⟨fun j hj => by
                rcases Nat.lt_or_ge j i with h3 | h3
                · exact HW.out j h3
                · have h4 : j = i := by omega
                  subst h4
                  exact HWB.out⟩, BS, BI, HB⟩
        · have hnlt : ¬ ((i : Int) < (h.length : Int)) := by omega
          have hii : i = h.length := by have := HJ.out; omega
          subst hii
          clear hil
          go_wp2
          go_ret
          exact ⟨by rw [HYES.out HIN.out HPT.out HW.out]; rfl, HB.out⟩
  · rw [hjn] at hJ
    have HJN := Aside0.mk hJ
    have HIN := Aside0.mk hjn
    clear hJ hjn
    go_enter Try.func31, Try.ntmps31
    go_wp2_with (first | ((with_reducible refine gate_dst (N := 13) rfl ?_); refine wq_load1 (ty := 4) (p := .tmp 12) (g := gi) (i := n) (v := .bool true) ?hgd79 ?ho79 ?hp79 Try.underlying4 ?hd79 BI.out ?hv79 ?_; (case hd79 => rfl); (case hgd79 => rfl); (case ho79 => rfl); (case hp79 => rfl); (case hv79 => exact HJN.out)) | ((with_reducible refine gate_dst (N := 10) rfl ?_); refine wq_load1 (ty := 41) (p := .tmp 9) (g := gs) (i := 1) (v := ?v80) ?hgd80 ?ho80 ?hp80 Try.underlying41 ?hd80 BS.out ?hv80 ?_; (case hd80 => rfl); (case hgd80 => rfl); (case ho80 => rfl); (case hp80 => rfl); (case hv80 => rfl)) | ((with_reducible refine gate_dst (N := 18) rfl ?_); refine wq_load1w (ty := 36) (p := .tmp 17) (g := gs) (i := 0) (v := ?v81) ?hgd81 ?ho81 ?hp81 Try.underlying36 ?hd81 BS.out ?hv81 ?_; (case hd81 => rfl); (case hgd81 => rfl); (case ho81 => rfl); (case hp81 => rfl); (case hv81 => rfl)) | (go_at_call 35; (with_reducible refine (li_point f B12 d12 HLF.out _ (Kd.C_below HRF.out HB.out)).mono ?_); rintro e cu1_ ⟨rfl, hbk⟩; have n_HB := Aside0.mk (below_step HB.out hbk); have n_BS := Aside0.mk (blk_below BS.out hbk); have n_BI := Aside0.mk (blk_below BI.out hbk); clear HB BS BI; have HB := n_HB; have BS := n_BS; have BI := n_BI; clear n_HB n_BS n_BI; clear hbk))
    go_ret
    exact ⟨by rw [HNOP.out (.inl HIN.out)]; rfl, HB.out⟩



/-! ### lin_tells: function 32 -/
def lin_tells.f (a0_0 : Int) (a0_1 : Int) (a0_2 : Int) (a0_3 : Int) (a0_4 : Int) (a0_5 : Int) (a0_6 : Int) (a0_7 : Int) (a0_8 : Int) (a0_9 : Int) (a0_10 : Bool) (a0_11 : Int) (l0_12 : List (S53)) (a1_0 : Int) (a1_1 : Bool) (a1_2 : Int) (l1_3 : List (S53)) : Option (Bool) := if a0_3 < 0 then (some true) else (if (a0_10 == a1_1) = true then (some (a0_11 == a1_2)) else (some false))
set_option maxHeartbeats 8000000 in
set_option maxRecDepth 100000 in
theorem lin_tells.calls (a0_0 : Int) (a0_1 : Int) (a0_2 : Int) (a0_3 : Int) (a0_4 : Int) (a0_5 : Int) (a0_6 : Int) (a0_7 : Int) (a0_8 : Int) (a0_9 : Int) (a0_10 : Bool) (a0_11 : Int) (A0_12 : Option Addr) (c0_12 : Nat) (l0_12 : List (S53)) (a1_0 : Int) (a1_1 : Bool) (a1_2 : Int) (A1_3 : Option Addr) (c1_3 : Nat) (l1_3 : List (S53)) (r : Bool) (w : World) (hr0_12 : Kd.C k53 w A0_12 l0_12.length l0_12) (hc0_12 : l0_12.length ≤ c0_12) (hr1_3 : Kd.C k53 w A1_3 l1_3.length l1_3) (hc1_3 : l1_3.length ≤ c1_3) (h : lin_tells.f a0_0 a0_1 a0_2 a0_3 a0_4 a0_5 a0_6 a0_7 a0_8 a0_9 a0_10 a0_11 l0_12 a1_0 a1_1 a1_2 l1_3 = some r) :
    Calls Try.prog 32 #[.agg #[.int .i64 a0_0, .int .i64 a0_1, .int .i64 a0_2, .int .i64 a0_3, .int .i64 a0_4, .int .i64 a0_5, .int .u64 a0_6, .int .u64 a0_7, .int .i64 a0_8, .int .i64 a0_9, .bool a0_10, .int .u64 a0_11, .slice A0_12 l0_12.length c0_12], .agg #[.int .i64 a1_0, .bool a1_1, .int .u64 a1_2, .slice A1_3 l1_3.length c1_3]] w fun e w' => e = .returned (.bool r) ∧ Below w.heap.size w w' := by
  have hu44 := Try.underlying44
  have hu30 := Try.underlying30
  have HR0_12 := Aside0.mk hr0_12
  have HC0_12 := Aside0.mk hc0_12
  clear hr0_12 hc0_12
  have HR1_3 := Aside0.mk hr1_3
  have HC1_3 := Aside0.mk hc1_3
  clear hr1_3 hc1_3
  have HB := Aside0.mk (Below.refl w.heap.size w)
  have H : (if a0_3 < 0 then (some true) else (if (a0_10 == a1_1) = true then (some (a0_11 == a1_2)) else (some false))) = some r := h
  clear h
  by_cases c3 : a0_3 < 0
  · rw [if_pos c3] at H
    have c3b0 : decide (a0_3 < 0) = true := decide_eq_true c3
    clear c3
    obtain rfl := Option.some.inj H
    go_enter Try.func32, Try.ntmps32
    go_wp2_with (first | ((with_reducible refine gate_dst (N := 2) rfl ?_); refine box_event ?hg (N := 2) ?hd (cs := #[.int .i64 a0_0, .int .i64 a0_1, .int .i64 a0_2, .int .i64 a0_3, .int .i64 a0_4, .int .i64 a0_5, .int .u64 a0_6, .int .u64 a0_7, .int .i64 a0_8, .int .i64 a0_9, .bool a0_10, .int .u64 a0_11, .slice A0_12 l0_12.length c0_12]) (t := 44) ?hr ?_; (case hd => rfl); (case hg => rfl); (case hr => first | (go_simp; done) | (go_simp; rfl)); intro gb110 hg w4 hbox hb; have n0_ := Aside0.mk (below_step (by repeat (first | (with_reducible first | exact HB.out | apply below_alloc | apply pw_below_drewN | apply below_drew1) | exact HB.out)) hb); have n1_ := Aside0.mk (hbox); have n2_ := Aside0.mk ((by rw [hg]; exact (below_size (by repeat (first | (with_reducible first | exact HB.out | apply below_alloc | apply pw_below_drewN | apply below_drew1) | exact HB.out))) : w.heap.size ≤ gb110)); have n3_ := Aside0.mk ((by rw [hg]; exact (below_size (by repeat (first | (with_reducible first | exact HB.out | apply below_alloc | apply pw_below_drewN | apply below_drew1) | exact HB.out))) : w.heap.size ≤ gb110)); clear HB; have HB := n0_; have BK110 := n1_; have GW110 := n2_; have GE110 := n3_; clear n0_ n1_ n2_ n3_; clear hb hbox hg) | ((with_reducible refine gate_dst (N := 3) rfl ?_); refine box_event ?hg (N := 3) ?hd (cs := #[.int .i64 a1_0, .bool a1_1, .int .u64 a1_2, .slice A1_3 l1_3.length c1_3]) (t := 30) ?hr ?_; (case hd => rfl); (case hg => rfl); (case hr => first | (go_simp; done) | (go_simp; rfl)); intro gb111 hg w5 hbox hb; have n0_ := Aside0.mk (blk_below (g := gb110) (o := .cells #[.int .i64 a0_0, .int .i64 a0_1, .int .i64 a0_2, .int .i64 a0_3, .int .i64 a0_4, .int .i64 a0_5, .int .u64 a0_6, .int .u64 a0_7, .int .i64 a0_8, .int .i64 a0_9, .bool a0_10, .int .u64 a0_11, .slice A0_12 l0_12.length c0_12] 44 (0, 0)) (by (with_reducible repeat (first | refine blk_drewN ?_ _ | refine blk_drew ?_ | refine blk_alloc ?_ _)); exact BK110.out) hb); have n1_ := Aside0.mk (below_step (by repeat (first | (with_reducible first | exact HB.out | apply below_alloc | apply pw_below_drewN | apply below_drew1 | refine below_set ?_ GE110.out) | exact HB.out)) hb); have n2_ := Aside0.mk (hbox); have n3_ := Aside0.mk ((by rw [hg]; exact (below_size (by repeat (first | (with_reducible first | exact HB.out | apply below_alloc | apply pw_below_drewN | apply below_drew1 | refine below_set ?_ GE110.out) | exact HB.out))) : w.heap.size ≤ gb111)); have n4_ := Aside0.mk ((by rw [hg]; exact (below_size (by repeat (first | (with_reducible first | exact HB.out | apply below_alloc | apply pw_below_drewN | apply below_drew1 | refine below_set ?_ GE110.out) | exact HB.out))) : w.heap.size ≤ gb111)); have n5_ := Aside0.mk ((by rw [hg]; exact Nat.ne_of_lt (blk_lt (g := gb110) (o := .cells #[.int .i64 a0_0, .int .i64 a0_1, .int .i64 a0_2, .int .i64 a0_3, .int .i64 a0_4, .int .i64 a0_5, .int .u64 a0_6, .int .u64 a0_7, .int .i64 a0_8, .int .i64 a0_9, .bool a0_10, .int .u64 a0_11, .slice A0_12 l0_12.length c0_12] 44 (0, 0)) (by (with_reducible repeat (first | refine blk_drewN ?_ _ | refine blk_drew ?_ | refine blk_alloc ?_ _)); exact BK110.out)) : gb110 ≠ gb111)); have n6_ := Aside0.mk ((by rw [hg]; exact Nat.ne_of_gt (blk_lt (g := gb110) (o := .cells #[.int .i64 a0_0, .int .i64 a0_1, .int .i64 a0_2, .int .i64 a0_3, .int .i64 a0_4, .int .i64 a0_5, .int .u64 a0_6, .int .u64 a0_7, .int .i64 a0_8, .int .i64 a0_9, .bool a0_10, .int .u64 a0_11, .slice A0_12 l0_12.length c0_12] 44 (0, 0)) (by (with_reducible repeat (first | refine blk_drewN ?_ _ | refine blk_drew ?_ | refine blk_alloc ?_ _)); exact BK110.out)) : gb111 ≠ gb110)); clear BK110; clear HB; have BK110 := n0_; have HB := n1_; have BK111 := n2_; have GW111 := n3_; have GE111 := n4_; have NB110_111 := n5_; have NB111_110 := n6_; clear n0_ n1_ n2_ n3_ n4_ n5_ n6_; clear hb hbox hg; have hnb6 := NB110_111.out; have hnc6 := NB111_110.out; have hcz7_0 : w5.cell? ⟨gb110, 0, none⟩ = some (.int .i64 a0_0) := (blk_cell BK110.out 0).trans rfl; have hcz7_1 : w5.cell? ⟨gb110, 1, none⟩ = some (.int .i64 a0_1) := (blk_cell BK110.out 1).trans rfl; have hcz7_2 : w5.cell? ⟨gb110, 2, none⟩ = some (.int .i64 a0_2) := (blk_cell BK110.out 2).trans rfl; have hcz7_3 : w5.cell? ⟨gb110, 3, none⟩ = some (.int .i64 a0_3) := (blk_cell BK110.out 3).trans rfl; have hcz7_4 : w5.cell? ⟨gb110, 4, none⟩ = some (.int .i64 a0_4) := (blk_cell BK110.out 4).trans rfl; have hcz7_5 : w5.cell? ⟨gb110, 5, none⟩ = some (.int .i64 a0_5) := (blk_cell BK110.out 5).trans rfl; have hcz7_6 : w5.cell? ⟨gb110, 6, none⟩ = some (.int .u64 a0_6) := (blk_cell BK110.out 6).trans rfl; have hcz7_7 : w5.cell? ⟨gb110, 7, none⟩ = some (.int .u64 a0_7) := (blk_cell BK110.out 7).trans rfl; have hcz7_8 : w5.cell? ⟨gb110, 8, none⟩ = some (.int .i64 a0_8) := (blk_cell BK110.out 8).trans rfl; have hcz7_9 : w5.cell? ⟨gb110, 9, none⟩ = some (.int .i64 a0_9) := (blk_cell BK110.out 9).trans rfl; have hcz7_10 : w5.cell? ⟨gb110, 10, none⟩ = some (.bool a0_10) := (blk_cell BK110.out 10).trans rfl; have hcz7_11 : w5.cell? ⟨gb110, 11, none⟩ = some (.int .u64 a0_11) := (blk_cell BK110.out 11).trans rfl; have hcz7_12 : w5.cell? ⟨gb110, 12, none⟩ = some (.slice A0_12 l0_12.length c0_12) := (blk_cell BK110.out 12).trans rfl; have hfz7_0 := blk_frozen BK110.out 0; have hfz7_1 := blk_frozen BK110.out 1; have hfz7_2 := blk_frozen BK110.out 2; have hfz7_3 := blk_frozen BK110.out 3; have hfz7_4 := blk_frozen BK110.out 4; have hfz7_5 := blk_frozen BK110.out 5; have hfz7_6 := blk_frozen BK110.out 6; have hfz7_7 := blk_frozen BK110.out 7; have hfz7_8 := blk_frozen BK110.out 8; have hfz7_9 := blk_frozen BK110.out 9; have hfz7_10 := blk_frozen BK110.out 10; have hfz7_11 := blk_frozen BK110.out 11; have hfz7_12 := blk_frozen BK110.out 12))
    go_ret
    exact ⟨by first | rfl | (simp [errW_none, errW_some] <;> rfl) | (simp [*, errW_none, errW_some] <;> rfl), by repeat (first | (with_reducible first | exact HB.out | apply below_alloc | apply pw_below_drewN | apply below_drew1 | refine below_set ?_ GE110.out | refine below_set ?_ GE111.out) | exact HB.out)⟩
  · rw [if_neg c3] at H
    have c3b0 : decide (a0_3 < 0) = false := decide_eq_false c3
    clear c3
    by_cases c8 : (a0_10 == a1_1) = true
    · rw [if_pos c8] at H
      have c8b0 : (a0_10 == a1_1) = true := c8
      (try (have c8b1 : decide (a0_10 = a1_1) = true := by simpa using c8))
      (try (have c8b2 : (a0_10 == a1_1) = true := by simpa using c8))
      clear c8
      obtain rfl := Option.some.inj H
      go_enter Try.func32, Try.ntmps32
      go_wp2_with (first | ((with_reducible refine gate_dst (N := 2) rfl ?_); refine box_event ?hg (N := 2) ?hd (cs := #[.int .i64 a0_0, .int .i64 a0_1, .int .i64 a0_2, .int .i64 a0_3, .int .i64 a0_4, .int .i64 a0_5, .int .u64 a0_6, .int .u64 a0_7, .int .i64 a0_8, .int .i64 a0_9, .bool a0_10, .int .u64 a0_11, .slice A0_12 l0_12.length c0_12]) (t := 44) ?hr ?_; (case hd => rfl); (case hg => rfl); (case hr => first | (go_simp; done) | (go_simp; rfl)); intro gb110 hg w9 hbox hb; have n0_ := Aside0.mk (below_step (by repeat (first | (with_reducible first | exact HB.out | apply below_alloc | apply pw_below_drewN | apply below_drew1) | exact HB.out)) hb); have n1_ := Aside0.mk (hbox); have n2_ := Aside0.mk ((by rw [hg]; exact (below_size (by repeat (first | (with_reducible first | exact HB.out | apply below_alloc | apply pw_below_drewN | apply below_drew1) | exact HB.out))) : w.heap.size ≤ gb110)); have n3_ := Aside0.mk ((by rw [hg]; exact (below_size (by repeat (first | (with_reducible first | exact HB.out | apply below_alloc | apply pw_below_drewN | apply below_drew1) | exact HB.out))) : w.heap.size ≤ gb110)); clear HB; have HB := n0_; have BK110 := n1_; have GW110 := n2_; have GE110 := n3_; clear n0_ n1_ n2_ n3_; clear hb hbox hg) | ((with_reducible refine gate_dst (N := 3) rfl ?_); refine box_event ?hg (N := 3) ?hd (cs := #[.int .i64 a1_0, .bool a1_1, .int .u64 a1_2, .slice A1_3 l1_3.length c1_3]) (t := 30) ?hr ?_; (case hd => rfl); (case hg => rfl); (case hr => first | (go_simp; done) | (go_simp; rfl)); intro gb111 hg w10 hbox hb; have n0_ := Aside0.mk (blk_below (g := gb110) (o := .cells #[.int .i64 a0_0, .int .i64 a0_1, .int .i64 a0_2, .int .i64 a0_3, .int .i64 a0_4, .int .i64 a0_5, .int .u64 a0_6, .int .u64 a0_7, .int .i64 a0_8, .int .i64 a0_9, .bool a0_10, .int .u64 a0_11, .slice A0_12 l0_12.length c0_12] 44 (0, 0)) (by (with_reducible repeat (first | refine blk_drewN ?_ _ | refine blk_drew ?_ | refine blk_alloc ?_ _)); exact BK110.out) hb); have n1_ := Aside0.mk (below_step (by repeat (first | (with_reducible first | exact HB.out | apply below_alloc | apply pw_below_drewN | apply below_drew1 | refine below_set ?_ GE110.out) | exact HB.out)) hb); have n2_ := Aside0.mk (hbox); have n3_ := Aside0.mk ((by rw [hg]; exact (below_size (by repeat (first | (with_reducible first | exact HB.out | apply below_alloc | apply pw_below_drewN | apply below_drew1 | refine below_set ?_ GE110.out) | exact HB.out))) : w.heap.size ≤ gb111)); have n4_ := Aside0.mk ((by rw [hg]; exact (below_size (by repeat (first | (with_reducible first | exact HB.out | apply below_alloc | apply pw_below_drewN | apply below_drew1 | refine below_set ?_ GE110.out) | exact HB.out))) : w.heap.size ≤ gb111)); have n5_ := Aside0.mk ((by rw [hg]; exact Nat.ne_of_lt (blk_lt (g := gb110) (o := .cells #[.int .i64 a0_0, .int .i64 a0_1, .int .i64 a0_2, .int .i64 a0_3, .int .i64 a0_4, .int .i64 a0_5, .int .u64 a0_6, .int .u64 a0_7, .int .i64 a0_8, .int .i64 a0_9, .bool a0_10, .int .u64 a0_11, .slice A0_12 l0_12.length c0_12] 44 (0, 0)) (by (with_reducible repeat (first | refine blk_drewN ?_ _ | refine blk_drew ?_ | refine blk_alloc ?_ _)); exact BK110.out)) : gb110 ≠ gb111)); have n6_ := Aside0.mk ((by rw [hg]; exact Nat.ne_of_gt (blk_lt (g := gb110) (o := .cells #[.int .i64 a0_0, .int .i64 a0_1, .int .i64 a0_2, .int .i64 a0_3, .int .i64 a0_4, .int .i64 a0_5, .int .u64 a0_6, .int .u64 a0_7, .int .i64 a0_8, .int .i64 a0_9, .bool a0_10, .int .u64 a0_11, .slice A0_12 l0_12.length c0_12] 44 (0, 0)) (by (with_reducible repeat (first | refine blk_drewN ?_ _ | refine blk_drew ?_ | refine blk_alloc ?_ _)); exact BK110.out)) : gb111 ≠ gb110)); clear BK110; clear HB; have BK110 := n0_; have HB := n1_; have BK111 := n2_; have GW111 := n3_; have GE111 := n4_; have NB110_111 := n5_; have NB111_110 := n6_; clear n0_ n1_ n2_ n3_ n4_ n5_ n6_; clear hb hbox hg; have hnb11 := NB110_111.out; have hnc11 := NB111_110.out; have hcz12_0 : w10.cell? ⟨gb110, 0, none⟩ = some (.int .i64 a0_0) := (blk_cell BK110.out 0).trans rfl; have hcz12_1 : w10.cell? ⟨gb110, 1, none⟩ = some (.int .i64 a0_1) := (blk_cell BK110.out 1).trans rfl; have hcz12_2 : w10.cell? ⟨gb110, 2, none⟩ = some (.int .i64 a0_2) := (blk_cell BK110.out 2).trans rfl; have hcz12_3 : w10.cell? ⟨gb110, 3, none⟩ = some (.int .i64 a0_3) := (blk_cell BK110.out 3).trans rfl; have hcz12_4 : w10.cell? ⟨gb110, 4, none⟩ = some (.int .i64 a0_4) := (blk_cell BK110.out 4).trans rfl; have hcz12_5 : w10.cell? ⟨gb110, 5, none⟩ = some (.int .i64 a0_5) := (blk_cell BK110.out 5).trans rfl; have hcz12_6 : w10.cell? ⟨gb110, 6, none⟩ = some (.int .u64 a0_6) := (blk_cell BK110.out 6).trans rfl; have hcz12_7 : w10.cell? ⟨gb110, 7, none⟩ = some (.int .u64 a0_7) := (blk_cell BK110.out 7).trans rfl; have hcz12_8 : w10.cell? ⟨gb110, 8, none⟩ = some (.int .i64 a0_8) := (blk_cell BK110.out 8).trans rfl; have hcz12_9 : w10.cell? ⟨gb110, 9, none⟩ = some (.int .i64 a0_9) := (blk_cell BK110.out 9).trans rfl; have hcz12_10 : w10.cell? ⟨gb110, 10, none⟩ = some (.bool a0_10) := (blk_cell BK110.out 10).trans rfl; have hcz12_11 : w10.cell? ⟨gb110, 11, none⟩ = some (.int .u64 a0_11) := (blk_cell BK110.out 11).trans rfl; have hcz12_12 : w10.cell? ⟨gb110, 12, none⟩ = some (.slice A0_12 l0_12.length c0_12) := (blk_cell BK110.out 12).trans rfl; have hfz12_0 := blk_frozen BK110.out 0; have hfz12_1 := blk_frozen BK110.out 1; have hfz12_2 := blk_frozen BK110.out 2; have hfz12_3 := blk_frozen BK110.out 3; have hfz12_4 := blk_frozen BK110.out 4; have hfz12_5 := blk_frozen BK110.out 5; have hfz12_6 := blk_frozen BK110.out 6; have hfz12_7 := blk_frozen BK110.out 7; have hfz12_8 := blk_frozen BK110.out 8; have hfz12_9 := blk_frozen BK110.out 9; have hfz12_10 := blk_frozen BK110.out 10; have hfz12_11 := blk_frozen BK110.out 11; have hfz12_12 := blk_frozen BK110.out 12; have hcz13_0 : w10.cell? ⟨gb111, 0, none⟩ = some (.int .i64 a1_0) := (blk_cell BK111.out 0).trans rfl; have hcz13_1 : w10.cell? ⟨gb111, 1, none⟩ = some (.bool a1_1) := (blk_cell BK111.out 1).trans rfl; have hcz13_2 : w10.cell? ⟨gb111, 2, none⟩ = some (.int .u64 a1_2) := (blk_cell BK111.out 2).trans rfl; have hcz13_3 : w10.cell? ⟨gb111, 3, none⟩ = some (.slice A1_3 l1_3.length c1_3) := (blk_cell BK111.out 3).trans rfl; have hfz13_0 := blk_frozen BK111.out 0; have hfz13_1 := blk_frozen BK111.out 1; have hfz13_2 := blk_frozen BK111.out 2; have hfz13_3 := blk_frozen BK111.out 3))
      go_ret
      exact ⟨by first | rfl | (simp [errW_none, errW_some] <;> rfl) | (simp [*, errW_none, errW_some] <;> rfl), by repeat (first | (with_reducible first | exact HB.out | apply below_alloc | apply pw_below_drewN | apply below_drew1 | refine below_set ?_ GE110.out | refine below_set ?_ GE111.out) | exact HB.out)⟩
    · rw [if_neg c8] at H
      have c8b0 : (a0_10 == a1_1) = false := by simpa using c8
      (try (have c8b1 : decide (a0_10 = a1_1) = false := by simpa using c8))
      (try (have c8b2 : (a0_10 == a1_1) = false := by simpa using c8))
      (try (have c8b3 : ¬ (a0_10 = a1_1) := by simpa using c8))
      clear c8
      obtain rfl := Option.some.inj H
      go_enter Try.func32, Try.ntmps32
      go_wp2_with (first | ((with_reducible refine gate_dst (N := 2) rfl ?_); refine box_event ?hg (N := 2) ?hd (cs := #[.int .i64 a0_0, .int .i64 a0_1, .int .i64 a0_2, .int .i64 a0_3, .int .i64 a0_4, .int .i64 a0_5, .int .u64 a0_6, .int .u64 a0_7, .int .i64 a0_8, .int .i64 a0_9, .bool a0_10, .int .u64 a0_11, .slice A0_12 l0_12.length c0_12]) (t := 44) ?hr ?_; (case hd => rfl); (case hg => rfl); (case hr => first | (go_simp; done) | (go_simp; rfl)); intro gb110 hg w14 hbox hb; have n0_ := Aside0.mk (below_step (by repeat (first | (with_reducible first | exact HB.out | apply below_alloc | apply pw_below_drewN | apply below_drew1) | exact HB.out)) hb); have n1_ := Aside0.mk (hbox); have n2_ := Aside0.mk ((by rw [hg]; exact (below_size (by repeat (first | (with_reducible first | exact HB.out | apply below_alloc | apply pw_below_drewN | apply below_drew1) | exact HB.out))) : w.heap.size ≤ gb110)); have n3_ := Aside0.mk ((by rw [hg]; exact (below_size (by repeat (first | (with_reducible first | exact HB.out | apply below_alloc | apply pw_below_drewN | apply below_drew1) | exact HB.out))) : w.heap.size ≤ gb110)); clear HB; have HB := n0_; have BK110 := n1_; have GW110 := n2_; have GE110 := n3_; clear n0_ n1_ n2_ n3_; clear hb hbox hg) | ((with_reducible refine gate_dst (N := 3) rfl ?_); refine box_event ?hg (N := 3) ?hd (cs := #[.int .i64 a1_0, .bool a1_1, .int .u64 a1_2, .slice A1_3 l1_3.length c1_3]) (t := 30) ?hr ?_; (case hd => rfl); (case hg => rfl); (case hr => first | (go_simp; done) | (go_simp; rfl)); intro gb111 hg w15 hbox hb; have n0_ := Aside0.mk (blk_below (g := gb110) (o := .cells #[.int .i64 a0_0, .int .i64 a0_1, .int .i64 a0_2, .int .i64 a0_3, .int .i64 a0_4, .int .i64 a0_5, .int .u64 a0_6, .int .u64 a0_7, .int .i64 a0_8, .int .i64 a0_9, .bool a0_10, .int .u64 a0_11, .slice A0_12 l0_12.length c0_12] 44 (0, 0)) (by (with_reducible repeat (first | refine blk_drewN ?_ _ | refine blk_drew ?_ | refine blk_alloc ?_ _)); exact BK110.out) hb); have n1_ := Aside0.mk (below_step (by repeat (first | (with_reducible first | exact HB.out | apply below_alloc | apply pw_below_drewN | apply below_drew1 | refine below_set ?_ GE110.out) | exact HB.out)) hb); have n2_ := Aside0.mk (hbox); have n3_ := Aside0.mk ((by rw [hg]; exact (below_size (by repeat (first | (with_reducible first | exact HB.out | apply below_alloc | apply pw_below_drewN | apply below_drew1 | refine below_set ?_ GE110.out) | exact HB.out))) : w.heap.size ≤ gb111)); have n4_ := Aside0.mk ((by rw [hg]; exact (below_size (by repeat (first | (with_reducible first | exact HB.out | apply below_alloc | apply pw_below_drewN | apply below_drew1 | refine below_set ?_ GE110.out) | exact HB.out))) : w.heap.size ≤ gb111)); have n5_ := Aside0.mk ((by rw [hg]; exact Nat.ne_of_lt (blk_lt (g := gb110) (o := .cells #[.int .i64 a0_0, .int .i64 a0_1, .int .i64 a0_2, .int .i64 a0_3, .int .i64 a0_4, .int .i64 a0_5, .int .u64 a0_6, .int .u64 a0_7, .int .i64 a0_8, .int .i64 a0_9, .bool a0_10, .int .u64 a0_11, .slice A0_12 l0_12.length c0_12] 44 (0, 0)) (by (with_reducible repeat (first | refine blk_drewN ?_ _ | refine blk_drew ?_ | refine blk_alloc ?_ _)); exact BK110.out)) : gb110 ≠ gb111)); have n6_ := Aside0.mk ((by rw [hg]; exact Nat.ne_of_gt (blk_lt (g := gb110) (o := .cells #[.int .i64 a0_0, .int .i64 a0_1, .int .i64 a0_2, .int .i64 a0_3, .int .i64 a0_4, .int .i64 a0_5, .int .u64 a0_6, .int .u64 a0_7, .int .i64 a0_8, .int .i64 a0_9, .bool a0_10, .int .u64 a0_11, .slice A0_12 l0_12.length c0_12] 44 (0, 0)) (by (with_reducible repeat (first | refine blk_drewN ?_ _ | refine blk_drew ?_ | refine blk_alloc ?_ _)); exact BK110.out)) : gb111 ≠ gb110)); clear BK110; clear HB; have BK110 := n0_; have HB := n1_; have BK111 := n2_; have GW111 := n3_; have GE111 := n4_; have NB110_111 := n5_; have NB111_110 := n6_; clear n0_ n1_ n2_ n3_ n4_ n5_ n6_; clear hb hbox hg; have hnb16 := NB110_111.out; have hnc16 := NB111_110.out; have hcz17_0 : w15.cell? ⟨gb110, 0, none⟩ = some (.int .i64 a0_0) := (blk_cell BK110.out 0).trans rfl; have hcz17_1 : w15.cell? ⟨gb110, 1, none⟩ = some (.int .i64 a0_1) := (blk_cell BK110.out 1).trans rfl; have hcz17_2 : w15.cell? ⟨gb110, 2, none⟩ = some (.int .i64 a0_2) := (blk_cell BK110.out 2).trans rfl; have hcz17_3 : w15.cell? ⟨gb110, 3, none⟩ = some (.int .i64 a0_3) := (blk_cell BK110.out 3).trans rfl; have hcz17_4 : w15.cell? ⟨gb110, 4, none⟩ = some (.int .i64 a0_4) := (blk_cell BK110.out 4).trans rfl; have hcz17_5 : w15.cell? ⟨gb110, 5, none⟩ = some (.int .i64 a0_5) := (blk_cell BK110.out 5).trans rfl; have hcz17_6 : w15.cell? ⟨gb110, 6, none⟩ = some (.int .u64 a0_6) := (blk_cell BK110.out 6).trans rfl; have hcz17_7 : w15.cell? ⟨gb110, 7, none⟩ = some (.int .u64 a0_7) := (blk_cell BK110.out 7).trans rfl; have hcz17_8 : w15.cell? ⟨gb110, 8, none⟩ = some (.int .i64 a0_8) := (blk_cell BK110.out 8).trans rfl; have hcz17_9 : w15.cell? ⟨gb110, 9, none⟩ = some (.int .i64 a0_9) := (blk_cell BK110.out 9).trans rfl; have hcz17_10 : w15.cell? ⟨gb110, 10, none⟩ = some (.bool a0_10) := (blk_cell BK110.out 10).trans rfl; have hcz17_11 : w15.cell? ⟨gb110, 11, none⟩ = some (.int .u64 a0_11) := (blk_cell BK110.out 11).trans rfl; have hcz17_12 : w15.cell? ⟨gb110, 12, none⟩ = some (.slice A0_12 l0_12.length c0_12) := (blk_cell BK110.out 12).trans rfl; have hfz17_0 := blk_frozen BK110.out 0; have hfz17_1 := blk_frozen BK110.out 1; have hfz17_2 := blk_frozen BK110.out 2; have hfz17_3 := blk_frozen BK110.out 3; have hfz17_4 := blk_frozen BK110.out 4; have hfz17_5 := blk_frozen BK110.out 5; have hfz17_6 := blk_frozen BK110.out 6; have hfz17_7 := blk_frozen BK110.out 7; have hfz17_8 := blk_frozen BK110.out 8; have hfz17_9 := blk_frozen BK110.out 9; have hfz17_10 := blk_frozen BK110.out 10; have hfz17_11 := blk_frozen BK110.out 11; have hfz17_12 := blk_frozen BK110.out 12; have hcz18_0 : w15.cell? ⟨gb111, 0, none⟩ = some (.int .i64 a1_0) := (blk_cell BK111.out 0).trans rfl; have hcz18_1 : w15.cell? ⟨gb111, 1, none⟩ = some (.bool a1_1) := (blk_cell BK111.out 1).trans rfl; have hcz18_2 : w15.cell? ⟨gb111, 2, none⟩ = some (.int .u64 a1_2) := (blk_cell BK111.out 2).trans rfl; have hcz18_3 : w15.cell? ⟨gb111, 3, none⟩ = some (.slice A1_3 l1_3.length c1_3) := (blk_cell BK111.out 3).trans rfl; have hfz18_0 := blk_frozen BK111.out 0; have hfz18_1 := blk_frozen BK111.out 1; have hfz18_2 := blk_frozen BK111.out 2; have hfz18_3 := blk_frozen BK111.out 3))
      go_ret
      exact ⟨by first | rfl | (simp [errW_none, errW_some] <;> rfl) | (simp [*, errW_none, errW_some] <;> rfl), by repeat (first | (with_reducible first | exact HB.out | apply below_alloc | apply pw_below_drewN | apply below_drew1 | refine below_set ?_ GE110.out | refine below_set ?_ GE111.out) | exact HB.out)⟩

-- NOT PRINTED: function 33 (lin_found_int)

end Go.Proofs.Ytcleoahoppggmaa.PLinAlone
