import Derived.Test.YtaofanhdmfdlmaaTell0
import Derived.Test.YtaofanhdmfdlmaaTell3
import Derived.Test.YtaofanhdmfdlmaaTell4
import Derived.Shelf.Small.Bits
import Derived.Shelf.Strconv.Itoa0
import Derived.Shelf.Sort.Plain
import Derived.Ground.Names2Prog
import Derived.Shelf.Slices.SearchI
import Derived.Shelf.Slices.In.SortNone
import Derived.Test.YtaofanhdmfdlmaaProg
import Derived.Test.YtaofanhdmfdlmaaTell2
import Derived.RegionIn
import Derived.Sort.LoopGhostIn
import Derived.OpenShut
import Derived.RegionTactic
-- PRINTED by print.py (a twelfth state) out of the translation. Not trusted: Lean checks it.
namespace Go.Proofs.Ytaofanhdmfdlmaa.Print
open Go.RowKit Go.Proofs.YtaofanhdmfdlmaaW.PrintWords Go.Proofs.YtaofanhdmfdlmaaW.PrintLast Go.Proofs.YtaofanhdmfdlmaaW.PrintMore
attribute [local go_sem] max2_int min2_int max_two min_two max_three min_three max_four min_four   -- for this text's walks alone
set_option linter.unusedVariables false
set_option linter.unusedSimpArgs false

/-! ### downpourref01_Of: function 111 -/
def downpourref01_Of.l0 : Nat → Int → List Int → List Int → Int → Option (Int × List Int)
  | 0, _, _, _, _ => none
  | k + 1, x0, x1, x5, x6 => if x6 < x0 then ((downpourref01_In.f k x1 x6).bind fun t831 => (if t831 = true then (if x5.length < 17592186044416 then (downpourref01_Of.l0 k x0 x1 (x5 ++ [1]) (wrap64 (x6 + 1))) else (none)) else (if x5.length < 17592186044416 then (downpourref01_Of.l0 k x0 x1 (x5 ++ [0]) (wrap64 (x6 + 1))) else (none)))) else ((downpourref01_From.f k x5).bind fun bt838 => (some (bt838.1, bt838.2)))
def downpourref01_Of.f (k : Nat) (a0 : Int) (l1 : List Int) : Option (Int × List Int) := downpourref01_Of.l0 k a0 l1 (([] : List Int)) 0
set_option maxHeartbeats 8000000 in
set_option maxRecDepth 100000 in
theorem downpourref01_Of.calls (k : Nat) (a0 : Int) (A1 : Option Addr) (c1 : Nat) (l1 : List Int) (r1 : Int) (r2 : List Int) (w : World) (hr1 : Kd.C (Kd.int .i64) w A1 l1.length l1) (hc1 : l1.length ≤ c1) (h : downpourref01_Of.f k a0 l1 = some (r1, r2)) :
    Calls Try.prog 111 #[.int .i64 a0, .slice A1 l1.length c1] w fun e w' => ∃ v1_ : Value, e = .returned (.agg #[.int .i64 r1, v1_]) ∧ Kd.R (Kd.int .u64) 25 w' w.heap.size (fun _ => True) v1_ r2 ∧ Below w.heap.size w w' := by
  have hu90 := Try.underlying90
  have HR1 := Aside0.mk hr1
  have HC1 := Aside0.mk hc1
  clear hr1 hc1
  have HB := Aside0.mk (Below.refl w.heap.size w)
  have H : (downpourref01_Of.l0 k a0 l1 (([] : List Int)) 0) = some (r1, r2) := h
  clear h
  obtain ⟨y828, hy828⟩ : ∃ y_ : List Int, y_ = (([] : List Int)) := ⟨_, rfl⟩
  replace H : (downpourref01_Of.l0 k a0 l1 y828 0) = some (r1, r2) := by first | (rw [hy828]; with_reducible exact H) | (have H2_ := (Option.bind_some _ _).symm.trans H; rw [hy828]; with_reducible exact H2_) | (have H2_ := (Option.bind_some _ _).symm.trans H; with_reducible exact H2_) | with_reducible exact H | (rw [hy828]; exact H) | exact H
  have Ny828 := Aside0.mk hy828
  clear hy828
  have H' := Aside0.mk H
  clear H
  go_enter Try.func111, Try.ntmps111
  go_wp2_with (first | ((with_reducible refine gate_dst (N := 4) rfl ?_); refine box_event ?hg (N := 4) ?hd (cs := #[.int .i64 0, .slice none 0 0]) (t := 90) ?hr ?_; (case hd => rfl); (case hg => rfl); (case hr => first | (go_simp; done) | (go_simp; rfl)); intro gb827 hg w3 hbox hb; have n0_ := Aside0.mk (below_step (by repeat (first | (with_reducible first | exact HB.out | apply below_alloc | apply pw_below_drewN | apply below_drew1) | exact HB.out)) hb); have n1_ := Aside0.mk (hbox); have n2_ := Aside0.mk ((by rw [hg]; exact (below_size (by repeat (first | (with_reducible first | exact HB.out | apply below_alloc | apply pw_below_drewN | apply below_drew1) | exact HB.out))) : w.heap.size ≤ gb827)); have n3_ := Aside0.mk ((by rw [hg]; exact (below_size (by repeat (first | (with_reducible first | exact HB.out | apply below_alloc | apply pw_below_drewN | apply below_drew1) | exact HB.out))) : w.heap.size ≤ gb827)); clear HB; have HB := n0_; have BK827 := n1_; have GW827 := n2_; have GE827 := n3_; clear n0_ n1_ n2_ n3_; clear hb hbox hg) | ((with_reducible refine gate_dst (N := 8) rfl ?_); refine Kd.R_lit (Kd.int .i64) _ 3 ?hg (N := 8) ?hd (xs := ([] : List Int)) (inner := []) (ok := fun _ => True) (okp := fun _ => True) ?hr ?hp (fun _ hk => hk) trivial (Below.refl _ _) (Nat.le_refl _) (by simp) ?_; (case hd => rfl); (case hg => rfl); (case hr => first | (go_simp; done) | (go_simp; rfl)); (case hp => exact (Reps.none _ _)); intro v829 w4 ho5 hb hg_ hnew_; clear hg_ hnew_; (first | rw [← Ny828.out] at ho5 | (simp only [Int.reduceToNat] at ho5; rw [← Ny828.out] at ho5)); have n0_ := Aside0.mk (Kd.R_lower ho5 (below_size (by repeat (first | (with_reducible first | exact HB.out | apply below_alloc | apply pw_below_drewN | apply below_drew1 | refine below_set ?_ GE827.out) | exact HB.out)))); have n1_ := Aside0.mk (blk_below (g := gb827) (o := .cells #[.int .i64 0, .slice none 0 0] 90 (0, 0)) (by (with_reducible repeat (first | refine blk_drewN ?_ _ | refine blk_drew ?_ | refine blk_alloc ?_ _)); exact BK827.out) hb); have n2_ := Aside0.mk (below_step (by repeat (first | (with_reducible first | exact HB.out | apply below_alloc | apply pw_below_drewN | apply below_drew1 | refine below_set ?_ GE827.out) | exact HB.out)) hb); clear BK827; clear HB; have HO830 := n0_; have BK827 := n1_; have HB := n2_; clear n0_ n1_ n2_; clear hb ho5))
  go_loopg [5, 6] k (fun kq v5 v6 w' => ∃ (x5_1 : List Int) (x6_1 : Int), v6 = .int .i64 x6_1 ∧ Aside0 (downpourref01_Of.l0 kq a0 l1 x5_1 x6_1 = some (r1, r2)) ∧ Aside0 (kq ≤ k) ∧ Aside0 (Kd.R (Kd.int .i64) 3 w' w.heap.size (fun _ => True) v5 x5_1) ∧ Aside0 (w'.heap[gb827]? = some (.cells #[.int .i64 0, (.slice none 0 0)] 90 (0, 0))) ∧ Aside0 (Below w.heap.size w w'))
  case atStart => exact ⟨(y828), (0), (by first | rfl | (simp; done) | (simp [*]; done)), H', ⟨Nat.le_refl _⟩, ⟨by (with_reducible repeat (first | apply Kd.R_alloc | apply Kd.R_drewN | apply Kd.R_drew)); exact HO830.out⟩, ⟨by (with_reducible repeat (first | refine blk_drewN ?_ _ | refine blk_drew ?_ | refine blk_alloc ?_ _)); exact BK827.out⟩, ⟨by repeat (first | (with_reducible first | exact HB.out | apply below_alloc | apply pw_below_drewN | apply below_drew1 | refine below_set ?_ GE827.out) | exact HB.out)⟩⟩
  case round =>
    clear H'
    try clear c1
    try clear p2
    obtain ⟨x5_1, x6_1, rfl, HA, HK1, HO_5, BK827, HB⟩ := hrel
    cases gk with
    | zero => exact absurd HA.out (by simp [downpourref01_Of.l0])
    | succ k1 =>
      have H := HA.out
      clear HA
      simp only [downpourref01_Of.l0] at H
      by_cases c6 : x6_1 < a0
      · rw [if_pos c6] at H
        have c6b0 : decide (x6_1 < a0) = true := decide_eq_true c6
        clear c6
        replace H := Option.bind_eq_some_iff.mp H
        obtain ⟨t831, A70, H⟩ := H
        replace H : (if t831 = true then (if x5_1.length < 17592186044416 then (downpourref01_Of.l0 k1 a0 l1 (x5_1 ++ [1]) (wrap64 (x6_1 + 1))) else (none)) else (if x5_1.length < 17592186044416 then (downpourref01_Of.l0 k1 a0 l1 (x5_1 ++ [0]) (wrap64 (x6_1 + 1))) else (none))) = some (r1, r2) := H
        have A7 := Aside0.mk A70
        clear A70
        by_cases c8 : t831 = true
        · subst c8
          have H1 : (if x5_1.length < 17592186044416 then (downpourref01_Of.l0 k1 a0 l1 (x5_1 ++ [1]) (wrap64 (x6_1 + 1))) else (none)) = some (r1, r2) := by rw [if_pos rfl] at H; exact H
          clear H
          have H := H1
          clear H1
          by_cases c9 : x5_1.length < 17592186044416
          · rw [if_pos c9] at H
            have LMc9 := Aside0.mk c9
            clear c9
            obtain ⟨y832, hy832⟩ : ∃ y_ : List Int, y_ = (x5_1 ++ [1]) := ⟨_, rfl⟩
            replace H : (downpourref01_Of.l0 k1 a0 l1 y832 (wrap64 (x6_1 + 1))) = some (r1, r2) := by first | (rw [hy832]; with_reducible exact H) | (have H2_ := (Option.bind_some _ _).symm.trans H; rw [hy832]; with_reducible exact H2_) | (have H2_ := (Option.bind_some _ _).symm.trans H; with_reducible exact H2_) | with_reducible exact H | (rw [hy832]; exact H) | exact H
            have Ny832 := Aside0.mk hy832
            clear hy832
            have H' := Aside0.mk H
            clear H
            go_wp2_with (first | ((with_reducible refine gate_callee (f := 139) rfl ?_); refine goesL_ (some 16) rfl rfl Try.func139 (by kernel_rfl) rfl #[.slice A1 l1.length c1, .int .i64 x6_1] rfl (by (try simp only [List.map_toArray, List.map_cons, List.map_nil]); first | done | rfl | (simp only [List.length_drop, List.length_take]; rfl)) ?_; (with_reducible refine (downpourref01_In.calls k1 _ _ l1 x6_1 true _ ?side1 ?side2 A7.out).mono ?_); (case side1 => repeat (first | exact (Kd.C_below HR1.out HB.out) | (with_reducible refine Kd.C_alloc ?_ _) | (with_reducible refine Kd.C_drewN ?_ _) | (with_reducible refine Kd.C_drew ?_))); (case side2 => exact HC1.out); rintro e w' ⟨rfl, ⟨nd, rfl⟩⟩; refine ⟨_, rfl, ?_⟩) | ((with_reducible refine gate_builtin (b := .append) (xs := #[.tmp 17, .tmp 19]) rfl ?_); at_builtin; refine Kd.R_append (Kd.int .i64) (w0 := w) w.heap.size rfl (.tmp 17) (.tmp 19) 40 3 (.int .i64 0) 8 rfl Try.underlying40 info3 rfl (by decide) (by omega) u5 x5_1 1 [.int .i64 1] (fun _ => True) (fun _ => False) rfl rfl ?aP (fun _ hk => hk.elim) ?aF ?aO ?aB ?aS ?aL ?_; (case aP => exact rfl); (case aB => exact (by repeat (first | (with_reducible first | exact HB.out | apply below_alloc | apply pw_below_drewN | apply below_drew1 | refine below_set ?_ GE827.out) | exact HB.out))); (case aF => exact (fun _ _ => trivial)); (case aO => exact (by (with_reducible repeat (first | apply Kd.R_alloc | apply Kd.R_drewN | apply Kd.R_drew)); exact HO_5.out)); (case aS => exact (below_size (by repeat (first | (with_reducible first | exact HB.out | apply below_alloc | apply pw_below_drewN | apply below_drew1 | refine below_set ?_ GE827.out) | exact HB.out)))); (case aL => have := LMc9.out; omega); intro v833 w10 ho hb hg hat; rw [← Ny832.out] at ho; have n0_ := Aside0.mk (blk_grown (g := gb827) (o := .cells #[.int .i64 0, .slice none 0 0] 90 (0, 0)) (by (with_reducible repeat (first | refine blk_drewN ?_ _ | refine blk_drew ?_ | refine blk_alloc ?_ _)); exact BK827.out) hg (Kd.R_ne HO_5.out BK827.out (by decide))); have n1_ := Aside0.mk (hb); have n2_ := Aside0.mk (ho); clear BK827; clear HB; clear HO_5; have BK827 := n0_; have HB := n1_; have HO834 := n2_; clear n0_ n1_ n2_; clear ho hb hg hat))
            go_roundg k1
            case measure => have := HK1.out; omega
            case rel => exact ⟨(y832), (wrap64 (x6_1 + 1)), (by first | rfl | (simp; done) | (simp [*]; done)), H', ⟨by have := HK1.out; omega⟩, ⟨by (with_reducible repeat (first | apply Kd.R_alloc | apply Kd.R_drewN | apply Kd.R_drew)); exact HO834.out⟩, ⟨by (with_reducible repeat (first | refine blk_drewN ?_ _ | refine blk_drew ?_ | refine blk_alloc ?_ _)); exact BK827.out⟩, ⟨by repeat (first | (with_reducible first | exact HB.out | apply below_alloc | apply pw_below_drewN | apply below_drew1 | refine below_set ?_ GE827.out) | exact HB.out)⟩⟩
          · rw [if_neg c9] at H
            exact absurd H (by simp)
        · replace c8 := Bool.eq_false_iff.mpr c8
          subst c8
          have H1 : (if x5_1.length < 17592186044416 then (downpourref01_Of.l0 k1 a0 l1 (x5_1 ++ [0]) (wrap64 (x6_1 + 1))) else (none)) = some (r1, r2) := by rw [if_neg (show ¬ (false = true) by decide)] at H; exact H
          clear H
          have H := H1
          clear H1
          by_cases c11 : x5_1.length < 17592186044416
          · rw [if_pos c11] at H
            have LMc11 := Aside0.mk c11
            clear c11
            obtain ⟨y835, hy835⟩ : ∃ y_ : List Int, y_ = (x5_1 ++ [0]) := ⟨_, rfl⟩
            replace H : (downpourref01_Of.l0 k1 a0 l1 y835 (wrap64 (x6_1 + 1))) = some (r1, r2) := by first | (rw [hy835]; with_reducible exact H) | (have H2_ := (Option.bind_some _ _).symm.trans H; rw [hy835]; with_reducible exact H2_) | (have H2_ := (Option.bind_some _ _).symm.trans H; with_reducible exact H2_) | with_reducible exact H | (rw [hy835]; exact H) | exact H
            have Ny835 := Aside0.mk hy835
            clear hy835
            have H' := Aside0.mk H
            clear H
            go_wp2_with (first | ((with_reducible refine gate_callee (f := 139) rfl ?_); refine goesL_ (some 16) rfl rfl Try.func139 (by kernel_rfl) rfl #[.slice A1 l1.length c1, .int .i64 x6_1] rfl (by (try simp only [List.map_toArray, List.map_cons, List.map_nil]); first | done | rfl | (simp only [List.length_drop, List.length_take]; rfl)) ?_; (with_reducible refine (downpourref01_In.calls k1 _ _ l1 x6_1 false _ ?side1 ?side2 A7.out).mono ?_); (case side1 => repeat (first | exact (Kd.C_below HR1.out HB.out) | (with_reducible refine Kd.C_alloc ?_ _) | (with_reducible refine Kd.C_drewN ?_ _) | (with_reducible refine Kd.C_drew ?_))); (case side2 => exact HC1.out); rintro e w' ⟨rfl, ⟨nd, rfl⟩⟩; refine ⟨_, rfl, ?_⟩) | ((with_reducible refine gate_builtin (b := .append) (xs := #[.tmp 17, .tmp 19]) rfl ?_); at_builtin; refine Kd.R_append (Kd.int .i64) (w0 := w) w.heap.size rfl (.tmp 17) (.tmp 19) 40 3 (.int .i64 0) 8 rfl Try.underlying40 info3 rfl (by decide) (by omega) u5 x5_1 0 [.int .i64 0] (fun _ => True) (fun _ => False) rfl rfl ?aP (fun _ hk => hk.elim) ?aF ?aO ?aB ?aS ?aL ?_; (case aP => exact rfl); (case aB => exact (by repeat (first | (with_reducible first | exact HB.out | apply below_alloc | apply pw_below_drewN | apply below_drew1 | refine below_set ?_ GE827.out) | exact HB.out))); (case aF => exact (fun _ _ => trivial)); (case aO => exact (by (with_reducible repeat (first | apply Kd.R_alloc | apply Kd.R_drewN | apply Kd.R_drew)); exact HO_5.out)); (case aS => exact (below_size (by repeat (first | (with_reducible first | exact HB.out | apply below_alloc | apply pw_below_drewN | apply below_drew1 | refine below_set ?_ GE827.out) | exact HB.out)))); (case aL => have := LMc11.out; omega); intro v836 w12 ho hb hg hat; rw [← Ny835.out] at ho; have n0_ := Aside0.mk (blk_grown (g := gb827) (o := .cells #[.int .i64 0, .slice none 0 0] 90 (0, 0)) (by (with_reducible repeat (first | refine blk_drewN ?_ _ | refine blk_drew ?_ | refine blk_alloc ?_ _)); exact BK827.out) hg (Kd.R_ne HO_5.out BK827.out (by decide))); have n1_ := Aside0.mk (hb); have n2_ := Aside0.mk (ho); clear BK827; clear HB; clear HO_5; have BK827 := n0_; have HB := n1_; have HO837 := n2_; clear n0_ n1_ n2_; clear ho hb hg hat))
            go_roundg k1
            case measure => have := HK1.out; omega
            case rel => exact ⟨(y835), (wrap64 (x6_1 + 1)), (by first | rfl | (simp; done) | (simp [*]; done)), H', ⟨by have := HK1.out; omega⟩, ⟨by (with_reducible repeat (first | apply Kd.R_alloc | apply Kd.R_drewN | apply Kd.R_drew)); exact HO837.out⟩, ⟨by (with_reducible repeat (first | refine blk_drewN ?_ _ | refine blk_drew ?_ | refine blk_alloc ?_ _)); exact BK827.out⟩, ⟨by repeat (first | (with_reducible first | exact HB.out | apply below_alloc | apply pw_below_drewN | apply below_drew1 | refine below_set ?_ GE827.out) | exact HB.out)⟩⟩
          · rw [if_neg c11] at H
            exact absurd H (by simp)
      · rw [if_neg c6] at H
        have c6b0 : decide (x6_1 < a0) = false := decide_eq_false c6
        clear c6
        replace H := Option.bind_eq_some_iff.mp H
        obtain ⟨⟨t838, t839⟩, A130, H⟩ := H
        replace H : (some (t838, t839)) = some (r1, r2) := H
        have A13 := Aside0.mk A130
        clear A130
        simp only [Option.some.injEq, Prod.mk.injEq] at H
        obtain ⟨rfl, rfl⟩ := H
        obtain ⟨Ao14, co14, eo14⟩ := Kd.R_slice HO_5.out
        subst eo14
        go_wp2_with (first | ((with_reducible refine gate_callee (f := 140) rfl ?_); refine goesL_ (some 22) rfl rfl Try.func140 (by kernel_rfl) rfl #[.slice Ao14 x5_1.length co14] rfl (by (try simp only [List.map_toArray, List.map_cons, List.map_nil]); first | done | rfl | (simp only [List.length_drop, List.length_take]; rfl)) ?_; (with_reducible refine (downpourref01_From.calls k1 _ _ x5_1 t838 t839 _ ?side1 ?side2 A13.out).mono ?_); (case side1 => repeat (first | exact (Kd.R_reads' HO_5.out).2.2 | (with_reducible refine Kd.C_alloc ?_ _) | (with_reducible refine Kd.C_drewN ?_ _) | (with_reducible refine Kd.C_drew ?_))); (case side2 => exact (Kd.R_reads' HO_5.out).2.1); rintro e w15 ⟨v840, rfl, ho0, hb⟩; refine ⟨_, rfl, ?_⟩; have n0_ := Aside0.mk (Kd.R_below (by (with_reducible repeat (first | apply Kd.R_alloc | apply Kd.R_drewN | apply Kd.R_drew)); exact HO_5.out) hb); have n1_ := Aside0.mk (Kd.R_lower ho0 (below_size (by repeat (first | (with_reducible first | exact HB.out | apply below_alloc | apply pw_below_drewN | apply below_drew1 | refine below_set ?_ GE827.out) | exact HB.out)))); have n2_ := Aside0.mk (blk_below (g := gb827) (o := .cells #[.int .i64 0, .slice none 0 0] 90 (0, 0)) (by (with_reducible repeat (first | refine blk_drewN ?_ _ | refine blk_drew ?_ | refine blk_alloc ?_ _)); exact BK827.out) hb); have n3_ := Aside0.mk (below_step (by repeat (first | (with_reducible first | exact HB.out | apply below_alloc | apply pw_below_drewN | apply below_drew1 | refine below_set ?_ GE827.out) | exact HB.out)) hb); clear HO_5; clear BK827; clear HB; have HO_5 := n0_; have HO841 := n1_; have BK827 := n2_; have HB := n3_; clear n0_ n1_ n2_ n3_; (try clear hb); (try clear hb2); (try clear hk); (try clear hi); (try clear ho0); have hcz16_0 : w15.cell? ⟨gb827, 0, none⟩ = some (.int .i64 0) := (blk_cell BK827.out 0).trans rfl; have hcz16_1 : w15.cell? ⟨gb827, 1, none⟩ = some (.slice none 0 0) := (blk_cell BK827.out 1).trans rfl; have hfz16_0 := blk_frozen BK827.out 0; have hfz16_1 := blk_frozen BK827.out 1; obtain ⟨Ao17, co17, eo17⟩ := Kd.R_slice HO841.out; subst eo17))
        refine bodyPost_ret (results_cell_row rfl _ _ gb827 90 #[.int .i64 t838, .slice Ao17 t839.length co17] (0, 0) _ rfl (by (with_reducible repeat (first | refine blk_drewN ?_ _ | refine blk_drew ?_ | refine blk_alloc ?_ _)); refine blk_put (cs := #[.int .i64 t838, .slice none 0 0]) ?_ 1 _ rfl; (with_reducible repeat (first | refine blk_drewN ?_ _ | refine blk_drew ?_ | refine blk_alloc ?_ _)); refine blk_put (cs := #[.int .i64 0, .slice none 0 0]) ?_ 0 _ rfl; (with_reducible repeat (first | refine blk_drewN ?_ _ | refine blk_drew ?_ | refine blk_alloc ?_ _)); exact BK827.out) Try.underlying90 rfl (by kernel_rfl)) rfl ?_
        exact ⟨_, by first | rfl | (simp [errW_none, errW_some] <;> rfl) | (simp [*, errW_none, errW_some] <;> rfl), by (with_reducible repeat (first | apply Kd.R_alloc | apply Kd.R_drewN | apply Kd.R_drew)); exact Kd.R_mono (Kd.R_far (p := ⟨gb827, 1, none⟩) (Kd.R_far (p := ⟨gb827, 0, none⟩) (Kd.R_types HO841.out BK827.out (by decide)) (fun _ hk => hk.2) (.int .i64 t838)) (fun _ hk => hk.2) (.slice Ao17 t839.length co17)) (fun _ hk => trivial), by repeat (first | (with_reducible first | exact HB.out | apply below_alloc | apply pw_below_drewN | apply below_drew1 | refine below_set ?_ GE827.out) | exact HB.out)⟩

/-! ### downpourref08_Row: function 58 -/
def downpourref08_Row.f (k : Nat) (a0 : Int) (a1 : Int) : Option (Int × List Int) := (downpourref08_Places.f k a0 a1).bind fun t843 => ((downpourref01_Of.f k a0 t843).bind fun bt846 => (some (bt846.1, bt846.2)))
set_option maxHeartbeats 8000000 in
set_option maxRecDepth 100000 in
theorem downpourref08_Row.calls (k : Nat) (a0 : Int) (a1 : Int) (r1 : Int) (r2 : List Int) (w : World) (h : downpourref08_Row.f k a0 a1 = some (r1, r2)) :
    Calls Try.prog 58 #[.int .i64 a0, .int .u64 a1] w fun e w' => ∃ v1_ : Value, e = .returned (.agg #[.int .i64 r1, v1_]) ∧ Kd.R (Kd.int .u64) 25 w' w.heap.size (fun _ => True) v1_ r2 ∧ Below w.heap.size w w' := by
  have hu90 := Try.underlying90
  have HB := Aside0.mk (Below.refl w.heap.size w)
  have H : ((downpourref08_Places.f k a0 a1).bind fun t843 => ((downpourref01_Of.f k a0 t843).bind fun bt846 => (some (bt846.1, bt846.2)))) = some (r1, r2) := h
  clear h
  replace H := Option.bind_eq_some_iff.mp H
  obtain ⟨t843, A30, H⟩ := H
  replace H : ((downpourref01_Of.f k a0 t843).bind fun bt846 => (some (bt846.1, bt846.2))) = some (r1, r2) := H
  have A3 := Aside0.mk A30
  clear A30
  replace H := Option.bind_eq_some_iff.mp H
  obtain ⟨⟨t846, t847⟩, A40, H⟩ := H
  replace H : (some (t846, t847)) = some (r1, r2) := H
  have A4 := Aside0.mk A40
  clear A40
  simp only [Option.some.injEq, Prod.mk.injEq] at H
  obtain ⟨rfl, rfl⟩ := H
  go_enter Try.func58, Try.ntmps58
  go_wp2_with (first | ((with_reducible refine gate_dst (N := 4) rfl ?_); refine box_event ?hg (N := 4) ?hd (cs := #[.int .i64 0, .slice none 0 0]) (t := 90) ?hr ?_; (case hd => rfl); (case hg => rfl); (case hr => first | (go_simp; done) | (go_simp; rfl)); intro gb842 hg w5 hbox hb; have n0_ := Aside0.mk (below_step (by repeat (first | (with_reducible first | exact HB.out | apply below_alloc | apply pw_below_drewN | apply below_drew1) | exact HB.out)) hb); have n1_ := Aside0.mk (hbox); have n2_ := Aside0.mk ((by rw [hg]; exact (below_size (by repeat (first | (with_reducible first | exact HB.out | apply below_alloc | apply pw_below_drewN | apply below_drew1) | exact HB.out))) : w.heap.size ≤ gb842)); have n3_ := Aside0.mk ((by rw [hg]; exact (below_size (by repeat (first | (with_reducible first | exact HB.out | apply below_alloc | apply pw_below_drewN | apply below_drew1) | exact HB.out))) : w.heap.size ≤ gb842)); clear HB; have HB := n0_; have BK842 := n1_; have GW842 := n2_; have GE842 := n3_; clear n0_ n1_ n2_ n3_; clear hb hbox hg) | ((with_reducible refine gate_callee (f := 57) rfl ?_); refine goesL_ (some 8) rfl rfl Try.func57 (by kernel_rfl) rfl #[.int .i64 a0, .int .u64 a1] rfl (by (try simp only [List.map_toArray, List.map_cons, List.map_nil]); first | done | rfl | (simp only [List.length_drop, List.length_take]; rfl)) ?_; (with_reducible refine (downpourref08_Places.calls k a0 a1 t843 _ A3.out).mono ?_); rintro e w6 ⟨v844, rfl, ho0, hb⟩; refine ⟨_, rfl, ?_⟩; have n0_ := Aside0.mk (Kd.R_lower ho0 (below_size (by repeat (first | (with_reducible first | exact HB.out | apply below_alloc | apply pw_below_drewN | apply below_drew1 | refine below_set ?_ GE842.out) | exact HB.out)))); have n1_ := Aside0.mk (blk_below (g := gb842) (o := .cells #[.int .i64 0, .slice none 0 0] 90 (0, 0)) (by (with_reducible repeat (first | refine blk_drewN ?_ _ | refine blk_drew ?_ | refine blk_alloc ?_ _)); exact BK842.out) hb); have n2_ := Aside0.mk (below_step (by repeat (first | (with_reducible first | exact HB.out | apply below_alloc | apply pw_below_drewN | apply below_drew1 | refine below_set ?_ GE842.out) | exact HB.out)) hb); clear BK842; clear HB; have HO845 := n0_; have BK842 := n1_; have HB := n2_; clear n0_ n1_ n2_; (try clear hb); (try clear hb2); (try clear hk); (try clear hi); (try clear ho0); obtain ⟨Ao7, co7, eo7⟩ := Kd.R_slice HO845.out; subst eo7) | ((with_reducible refine gate_callee (f := 111) rfl ?_); refine goesL_ (some 9) rfl rfl Try.func111 (by kernel_rfl) rfl #[.int .i64 a0, .slice Ao7 t843.length co7] rfl (by (try simp only [List.map_toArray, List.map_cons, List.map_nil]); first | done | rfl | (simp only [List.length_drop, List.length_take]; rfl)) ?_; (with_reducible refine (downpourref01_Of.calls k a0 _ _ t843 t846 t847 _ ?side1 ?side2 A4.out).mono ?_); (case side1 => repeat (first | exact (Kd.R_reads' HO845.out).2.2 | (with_reducible refine Kd.C_alloc ?_ _) | (with_reducible refine Kd.C_drewN ?_ _) | (with_reducible refine Kd.C_drew ?_))); (case side2 => exact (Kd.R_reads' HO845.out).2.1); rintro e w8 ⟨v848, rfl, ho0, hb⟩; refine ⟨_, rfl, ?_⟩; have n0_ := Aside0.mk (Kd.R_below (by (with_reducible repeat (first | apply Kd.R_alloc | apply Kd.R_drewN | apply Kd.R_drew)); exact HO845.out) hb); have n1_ := Aside0.mk (Kd.R_lower ho0 (below_size (by repeat (first | (with_reducible first | exact HB.out | apply below_alloc | apply pw_below_drewN | apply below_drew1 | refine below_set ?_ GE842.out) | exact HB.out)))); have n2_ := Aside0.mk (blk_below (g := gb842) (o := .cells #[.int .i64 0, .slice none 0 0] 90 (0, 0)) (by (with_reducible repeat (first | refine blk_drewN ?_ _ | refine blk_drew ?_ | refine blk_alloc ?_ _)); exact BK842.out) hb); have n3_ := Aside0.mk (below_step (by repeat (first | (with_reducible first | exact HB.out | apply below_alloc | apply pw_below_drewN | apply below_drew1 | refine below_set ?_ GE842.out) | exact HB.out)) hb); clear HO845; clear BK842; clear HB; have HO845 := n0_; have HO849 := n1_; have BK842 := n2_; have HB := n3_; clear n0_ n1_ n2_ n3_; (try clear hb); (try clear hb2); (try clear hk); (try clear hi); (try clear ho0); have hcz9_0 : w8.cell? ⟨gb842, 0, none⟩ = some (.int .i64 0) := (blk_cell BK842.out 0).trans rfl; have hcz9_1 : w8.cell? ⟨gb842, 1, none⟩ = some (.slice none 0 0) := (blk_cell BK842.out 1).trans rfl; have hfz9_0 := blk_frozen BK842.out 0; have hfz9_1 := blk_frozen BK842.out 1; obtain ⟨Ao10, co10, eo10⟩ := Kd.R_slice HO849.out; subst eo10))
  refine bodyPost_ret (results_cell_row rfl _ _ gb842 90 #[.int .i64 t846, .slice Ao10 t847.length co10] (0, 0) _ rfl (by (with_reducible repeat (first | refine blk_drewN ?_ _ | refine blk_drew ?_ | refine blk_alloc ?_ _)); refine blk_put (cs := #[.int .i64 t846, .slice none 0 0]) ?_ 1 _ rfl; (with_reducible repeat (first | refine blk_drewN ?_ _ | refine blk_drew ?_ | refine blk_alloc ?_ _)); refine blk_put (cs := #[.int .i64 0, .slice none 0 0]) ?_ 0 _ rfl; (with_reducible repeat (first | refine blk_drewN ?_ _ | refine blk_drew ?_ | refine blk_alloc ?_ _)); exact BK842.out) Try.underlying90 rfl (by kernel_rfl)) rfl ?_
  exact ⟨_, by first | rfl | (simp [errW_none, errW_some] <;> rfl) | (simp [*, errW_none, errW_some] <;> rfl), by (with_reducible repeat (first | apply Kd.R_alloc | apply Kd.R_drewN | apply Kd.R_drew)); exact Kd.R_mono (Kd.R_far (p := ⟨gb842, 1, none⟩) (Kd.R_far (p := ⟨gb842, 0, none⟩) (Kd.R_types HO849.out BK842.out (by decide)) (fun _ hk => hk.2) (.int .i64 t846)) (fun _ hk => hk.2) (.slice Ao10 t847.length co10)) (fun _ hk => trivial), by repeat (first | (with_reducible first | exact HB.out | apply below_alloc | apply pw_below_drewN | apply below_drew1 | refine below_set ?_ GE842.out) | exact HB.out)⟩

/-! ### downpourref03_Same: function 60 -/
end Go.Proofs.Ytaofanhdmfdlmaa.Print

-- PRINTED by print.py (a twelfth state) out of the translation. Not trusted: Lean checks it.
namespace Go.Proofs.Ytaofanhdmfdlmaa.Print
open Go.RowKit Go.Proofs.YtaofanhdmfdlmaaW.PrintWords Go.Proofs.YtaofanhdmfdlmaaW.PrintLast Go.Proofs.YtaofanhdmfdlmaaW.PrintMore
attribute [local go_sem] max2_int min2_int max_two min_two max_three min_three max_four min_four   -- for this text's walks alone
set_option linter.unusedVariables false
set_option linter.unusedSimpArgs false

/-! ### downpourref08_Rows: function 61 -/
/-! ### shard_Of: function 62 -/
/-! ### downpourref13_Locks: function 68 -/
/-! ### degree_root: function 196 -/
def degree_root.l0 : Nat → Int → Int → Int → Option (Int)
  | 0, _, _, _ => none
  | k + 1, x0, x3, x4 => if x4 > 0 then (if (wrap64 ((wrap64 (x3 + x4)) * (wrap64 (x3 + x4)))) ≤ x0 then (degree_root.l0 k x0 (wrap64 (x3 + x4)) (x4 / 2)) else (degree_root.l0 k x0 x3 (x4 / 2))) else (some x3)
def degree_root.f (k : Nat) (a0 : Int) : Option (Int) := degree_root.l0 k a0 0 32768
set_option maxHeartbeats 8000000 in
set_option maxRecDepth 100000 in
theorem degree_root.calls (k : Nat) (a0 : Int) (r : Int) (w : World) (h : degree_root.f k a0 = some r) :
    Calls Try.prog 196 #[.int .i64 a0] w fun e w' => e = .returned (.int .i64 r) ∧ Drawn0 w w' := by
  have H : (degree_root.l0 k a0 0 32768) = some r := h
  clear h
  have H' := Aside0.mk H
  clear H
  go_enter Try.func196, Try.ntmps196
  go_wp2
  go_loopg [3, 4] k (fun kq v3 v4 w' => ∃ (x3_1 : Int) (x4_1 : Int), v3 = .int .i64 x3_1 ∧ v4 = .int .i64 x4_1 ∧ Aside0 (degree_root.l0 kq a0 x3_1 x4_1 = some r) ∧ Aside0 (kq ≤ k) ∧ Drawn0 w w')
  case atStart => exact ⟨(0), (32768), (by first | rfl | (simp; done) | (simp [*]; done)), (by first | rfl | (simp; done) | (simp [*]; done)), H', ⟨Nat.le_refl _⟩, by repeat (first | exact Drawn0.refl _ | apply Drawn0.step)⟩
  case round =>
    clear H'
    try clear c1
    obtain ⟨x3_1, x4_1, rfl, rfl, HA, HK1, ⟨m1, rfl⟩⟩ := hrel
    cases gk with
    | zero => exact absurd HA.out (by simp [degree_root.l0])
    | succ k1 =>
      have H := HA.out
      clear HA
      simp only [degree_root.l0] at H
      by_cases c2 : x4_1 > 0
      · rw [if_pos c2] at H
        have c2b0 : decide (0 < x4_1) = true := decide_eq_true c2
        clear c2
        by_cases c3 : (wrap64 ((wrap64 (x3_1 + x4_1)) * (wrap64 (x3_1 + x4_1)))) ≤ a0
        · rw [if_pos c3] at H
          have c3b0 : decide ((wrap64 ((wrap64 (x3_1 + x4_1)) * (wrap64 (x3_1 + x4_1)))) ≤ a0) = true := decide_eq_true c3
          clear c3
          have H' := Aside0.mk H
          clear H
          go_wp2
          go_roundg k1
          case measure => have := HK1.out; omega
          case rel => exact ⟨(wrap64 (x3_1 + x4_1)), (x4_1 / 2), (by first | rfl | (simp; done) | (simp [*]; done)), (by first | rfl | (simp; done) | (simp [*]; done)), H', ⟨by have := HK1.out; omega⟩, by repeat (first | exact Drawn0.refl _ | apply Drawn0.step)⟩
        · rw [if_neg c3] at H
          have c3b0 : decide ((wrap64 ((wrap64 (x3_1 + x4_1)) * (wrap64 (x3_1 + x4_1)))) ≤ a0) = false := decide_eq_false c3
          clear c3
          have H' := Aside0.mk H
          clear H
          go_wp2
          go_roundg k1
          case measure => have := HK1.out; omega
          case rel => exact ⟨(x3_1), (x4_1 / 2), (by first | rfl | (simp; done) | (simp [*]; done)), (by first | rfl | (simp; done) | (simp [*]; done)), H', ⟨by have := HK1.out; omega⟩, by repeat (first | exact Drawn0.refl _ | apply Drawn0.step)⟩
      · rw [if_neg c2] at H
        have c2b0 : decide (0 < x4_1) = false := decide_eq_false c2
        clear c2
        obtain rfl := Option.some.inj H
        go_wp2
        go_ret
        exact ⟨by first | rfl | (simp; done) | (simp [*]; done), by repeat (first | exact Drawn0.refl _ | apply Drawn0.step)⟩

/-! ### cmp_isNaN_uint64: function 178 -/
/-! ### cmp_Compare_uint64: function 143 -/
/-! ### equations_in: function 93 -/
/-! ### shard_held_against: function 115 -/
end Go.Proofs.Ytaofanhdmfdlmaa.Print

/-
  DERIVED: THE SHELF's CONTRACTS AT THIS DUMP, IN PLAIN WORDS (tools/lay-plain.mjs out of 'TryShelf.lean', which tools/lay-shelf.mjs wrote): THE SAME DECLARATIONS UNDER THE SAME NAMES: 'import', 'namespace', 'open', 'def', 'theorem' AND NOTHING ELSE: no command of the shelf's: FOR A HAND-IN. Each laying: the table of numbers ('.._ren') and one theorem, a field a fact of the dump's own or the kernel's comparison; each contract: ONE APPLICATION.
-/
namespace Go.Proofs
open Go.Shelf
def Try.lays134_ren : Go.Shelf.Ren := ⟨fun | 134 => 145 | 129 => 157 | n => n, fun | 53 => 25 | 3 => 3 | 4 => 4 | 46 => 172 | 5 => 5 | 9 => 9 | n => n, fun | n => n⟩
theorem Try.lays134 : Go.Proofs.Lays.n134 Try.prog Try.lays134_ren := {
  mixed := by kernel_rfl
  f129 := Try.func157.trans (congrArg some (by kernel_rfl))
  f134 := Try.func145.trans (congrArg some (by kernel_rfl))
  t3 := Try.underlying3
  a3 := Try.isAgg3
  z3 := Try.sizeOf3
  v3 := Try.zeroValue3
  t4 := Try.underlying4
  a4 := Try.isAgg4
  z4 := Try.sizeOf4
  v4 := Try.zeroValue4
  t5 := Try.underlying5
  a5 := Try.isAgg5
  z5 := Try.sizeOf5
  v5 := Try.zeroValue5
  t9 := Try.underlying9
  a9 := Try.isAgg9
  z9 := Try.sizeOf9
  v9 := Try.zeroValue9
  t46 := Try.underlying172
  a46 := Try.isAgg172
  z46 := Try.sizeOf172
  v46 := Try.zeroValue172
  t53 := Try.underlying25
  a53 := Try.isAgg25
  z53 := Try.sizeOf25
  v53 := Try.zeroValue25 }
/-- bits.LeadingZeros64: "LeadingZeros64 returns the number of leading zero bits in x; the result is 64 for x == 0.": IT RETURNS '64 - Lib.bitLen x'; the world is as it was. ITS CALLEE bits.Len64 IS MET BY ITS OWN CONTRACT OFF THE SHELF (lay that first): entered in place it sends the kernel out of memory. (LAID: no walk: one application.) -/
theorem Try.bits_LeadingZeros64 (x : Int) (w : World) (h0 : 0 ≤ x) (h1 : x ≤ 18446744073709551615) :
    Calls Try.prog 145 #[.int .u64 x] w fun e w' => e = .returned (.int .i64 (64 - (Lib.bitLen x.toNat : Int))) ∧ w' = w := Any.bits_LeadingZeros64 Try.lays134 x w h0 h1
def Try.lays129_ren : Go.Shelf.Ren := ⟨fun | 129 => 157 | n => n, fun | 53 => 25 | 3 => 3 | 4 => 4 | 46 => 172 | 5 => 5 | 9 => 9 | n => n, fun | n => n⟩
theorem Try.lays129 : Go.Proofs.Lays.n129 Try.prog Try.lays129_ren := {
  mixed := by kernel_rfl
  f129 := Try.func157.trans (congrArg some (by kernel_rfl))
  t3 := Try.underlying3
  a3 := Try.isAgg3
  z3 := Try.sizeOf3
  v3 := Try.zeroValue3
  t4 := Try.underlying4
  a4 := Try.isAgg4
  z4 := Try.sizeOf4
  v4 := Try.zeroValue4
  t5 := Try.underlying5
  a5 := Try.isAgg5
  z5 := Try.sizeOf5
  v5 := Try.zeroValue5
  t9 := Try.underlying9
  a9 := Try.isAgg9
  z9 := Try.sizeOf9
  v9 := Try.zeroValue9
  t46 := Try.underlying172
  a46 := Try.isAgg172
  z46 := Try.sizeOf172
  v46 := Try.zeroValue172
  t53 := Try.underlying25
  a53 := Try.isAgg25
  z53 := Try.sizeOf25
  v53 := Try.zeroValue25 }
/-- bits.Len64: "Len64 returns the minimum number of bits required to represent x; the result is 0 for x == 0.": IT RETURNS 'Lib.bitLen x'; the world is as it was. ('h0', 'h1': x is a uint64.) (LAID: no walk: one application.) -/
theorem Try.bits_Len64 (x : Int) (w : World) (h0 : 0 ≤ x) (h1 : x ≤ 18446744073709551615) :
    Calls Try.prog 157 #[.int .u64 x] w fun e w' => e = .returned (.int .i64 (Lib.bitLen x.toNat)) ∧ w' = w := Any.bits_Len64 Try.lays129 x w h0 h1
def Try.lays189_ren : Go.Shelf.Ren := ⟨fun | 189 => 84 | 125 => 123 | 257 => 122 | 128 => 156 | 129 => 157 | 294 => 147 | 295 => 148 | 296 => 149 | 297 => 150 | 298 => 151 | 299 => 152 | 216 => 153 | 300 => 154 | 301 => 155 | 328 => 180 | 329 => 181 | 330 => 182 | 331 => 183 | 332 => 184 | 215 => 185 | 343 => 202 | n => n, fun | 28 => 40 | 3 => 3 | 46 => 172 | 0 => 0 | 51 => 200 | 53 => 25 | 4 => 4 | 183 => 194 | 182 => 193 | 131 => 115 | 5 => 5 | 9 => 9 | 218 => 215 | 222 => 219 | 228 => 228 | 229 => 229 | n => n, fun | n => n⟩
theorem Try.lays189 : Go.Proofs.Lays.n189 Try.prog Try.lays189_ren := {
  mixed := by kernel_rfl
  f125 := Try.func123.trans (congrArg some (by kernel_rfl))
  f128 := Try.func156.trans (congrArg some (by kernel_rfl))
  f129 := Try.func157.trans (congrArg some (by kernel_rfl))
  f189 := Try.func84.trans (congrArg some (by kernel_rfl))
  f215 := Try.func185.trans (congrArg some (by kernel_rfl))
  f216 := Try.func153.trans (congrArg some (by kernel_rfl))
  f257 := Try.func122.trans (congrArg some (by kernel_rfl))
  f294 := Try.func147.trans (congrArg some (by kernel_rfl))
  f295 := Try.func148.trans (congrArg some (by kernel_rfl))
  f296 := Try.func149.trans (congrArg some (by kernel_rfl))
  f297 := Try.func150.trans (congrArg some (by kernel_rfl))
  f298 := Try.func151.trans (congrArg some (by kernel_rfl))
  f299 := Try.func152.trans (congrArg some (by kernel_rfl))
  f300 := Try.func154.trans (congrArg some (by kernel_rfl))
  f301 := Try.func155.trans (congrArg some (by kernel_rfl))
  f328 := Try.func180.trans (congrArg some (by kernel_rfl))
  f329 := Try.func181.trans (congrArg some (by kernel_rfl))
  f330 := Try.func182.trans (congrArg some (by kernel_rfl))
  f331 := Try.func183.trans (congrArg some (by kernel_rfl))
  f332 := Try.func184.trans (congrArg some (by kernel_rfl))
  f343 := Try.func202.trans (congrArg some (by kernel_rfl))
  t0 := Try.underlying0
  a0 := Try.isAgg0
  z0 := Try.sizeOf0
  v0 := Try.zeroValue0
  t3 := Try.underlying3
  a3 := Try.isAgg3
  z3 := Try.sizeOf3
  v3 := Try.zeroValue3
  t4 := Try.underlying4
  a4 := Try.isAgg4
  z4 := Try.sizeOf4
  v4 := Try.zeroValue4
  t5 := Try.underlying5
  a5 := Try.isAgg5
  z5 := Try.sizeOf5
  v5 := Try.zeroValue5
  t9 := Try.underlying9
  a9 := Try.isAgg9
  z9 := Try.sizeOf9
  v9 := Try.zeroValue9
  t28 := Try.underlying40
  a28 := Try.isAgg40
  z28 := Try.sizeOf40
  v28 := Try.zeroValue40
  t46 := Try.underlying172
  a46 := Try.isAgg172
  z46 := Try.sizeOf172
  v46 := Try.zeroValue172
  t51 := Try.underlying200
  a51 := Try.isAgg200
  z51 := Try.sizeOf200
  v51 := Try.zeroValue200
  t53 := Try.underlying25
  a53 := Try.isAgg25
  z53 := Try.sizeOf25
  v53 := Try.zeroValue25
  t131 := Try.underlying115
  a131 := Try.isAgg115
  z131 := Try.sizeOf115
  v131 := Try.zeroValue115
  t182 := Try.underlying193
  a182 := Try.isAgg193
  z182 := Try.sizeOf193
  v182 := Try.zeroValue193
  t183 := Try.underlying194
  a183 := Try.isAgg194
  z183 := Try.sizeOf194
  v183 := Try.zeroValue194
  t218 := Try.underlying215
  a218 := Try.isAgg215
  z218 := Try.sizeOf215
  v218 := Try.zeroValue215
  t222 := Try.underlying219
  a222 := Try.isAgg219
  z222 := Try.sizeOf219
  v222 := Try.zeroValue219
  t228 := Try.underlying228
  a228 := Try.isAgg228
  z228 := Try.sizeOf228
  v228 := Try.zeroValue228
  t229 := Try.underlying229
  a229 := Try.isAgg229
  z229 := Try.sizeOf229
  v229 := Try.zeroValue229 }
open Go.Sort Go.RowKit in
theorem Try.slices_Sort_int (blk off cap : Nat) (zs : List Int) (w : World) (hH : Holds (Value.int .i64) w blk off zs.toArray) (hblk : blk < w.heap.size) (hsz : zs.length < 4611686018427387904) :
    Calls Try.prog 84 #[.slice (some ⟨blk, off, none⟩) zs.length cap] w fun e w' =>
      e = .returned (.tuple #[]) ∧ ∃ n os, w' = grow (putRow (Value.int .i64) (Sort.ahead w n) blk off (zs.mergeSort fun x y => decide (x ≤ y)).toArray) os := Any.slices_Sort_int Try.lays189 blk off cap zs w hH hblk hsz
open Go.RowKit Go.Sort in
/-- .. and plain. (LAID: no walk: one application.) -/
theorem Try.slices_Sort_int_none (p : Option Addr) (cap : Nat) (w : World) :
    Calls Try.prog 84 #[.slice p 0 cap] w fun e w' => e = .returned (.tuple #[]) ∧ w' = w := Any.slices_Sort_int_none Try.lays189 p cap w
end Go.Proofs

/-
What is proved: degree.weights(k), seen from a loop: the weights of degrees 1 to k, one by one. Condition: k is from 1 to 64.
-/
namespace Go.Proofs.Ytaofanhdmfdlmaa.Print
open Go Go.RowKit Go.Proofs.YtaofanhdmfdlmaaW.PrintWords Go.Proofs.YtaofanhdmfdlmaaW.PrintLast Go.Proofs.YtaofanhdmfdlmaaW.PrintMore Go.Proofs.Ytaofanhdmfdlmaa.Rng
attribute [local go_sem] Oper.semAt_some
set_option linter.unusedVariables false
/-- The root; the weight of degree d of k blocks. -/
def rt (k : Int) : Int := (degree_root.f 18 k).getD 0
theorem rt_all : ∀ i : Fin 64, degree_root.f 18 ((i.val : Int) + 1) = some (rt ((i.val : Int) + 1)) ∧ 1 ≤ rt ((i.val : Int) + 1) ∧ rt ((i.val : Int) + 1) ≤ 8 := by decide +kernel
theorem rt_at (k : Int) (h1 : 1 ≤ k) (h2 : k ≤ 64) : degree_root.f 18 k = some (rt k) ∧ 1 ≤ rt k ∧ rt k ≤ 8 := by
  have h := rt_all ⟨(k - 1).toNat, by omega⟩
  have e : (((k - 1).toNat : Nat) : Int) + 1 = k := by omega
  simp only [e] at h
  exact h
def wtBase (k d : Int) : Int := if d > 1 then 4294967296 / (d * (d - 1)) else 4294967296 / k
def wt (k d : Int) : Int :=
  if d < k / rt k then wtBase k d + 4294967296 * rt k / (d * k)
  else if d = k / rt k then wtBase k d + 4294967296 * rt k * (Lib.bitLen (rt k).toNat : Int) / k else wtBase k d
end Go.Proofs.Ytaofanhdmfdlmaa.Print

/-
What is proved: degree.weights(k), seen from a loop: the weights of degrees 1 to k, one by one. Condition: k is from 1 to 64.
-/
namespace Go.Proofs.Ytaofanhdmfdlmaa.Print
open Go Go.RowKit Go.Proofs.YtaofanhdmfdlmaaW.PrintWords Go.Proofs.YtaofanhdmfdlmaaW.PrintLast Go.Proofs.YtaofanhdmfdlmaaW.PrintMore Go.Proofs.Ytaofanhdmfdlmaa.Rng
attribute [local go_sem] Oper.semAt_some
set_option linter.unusedVariables false
theorem u64_in {x : Int} (h : 0 ≤ x ∧ x < 18446744073709551616) : IntKind.u64.wrap x = x := by rw [IntKind.wrap_u64]; omega
theorem tdiv_in {a b : Int} (h : 0 ≤ a) : Int.tdiv a b = a / b := Int.tdiv_eq_ediv_of_nonneg h
theorem div_le_self' {a b : Int} (h : 0 ≤ a) (hb : 1 ≤ b) : 0 ≤ a / b ∧ a / b ≤ a := by
  refine ⟨Int.ediv_nonneg h (by omega), ?_⟩
  exact Int.ediv_le_self _ h
theorem wt_range (k d : Int) (h1 : 1 ≤ k) (h2 : k ≤ 64) (h3 : 1 ≤ d) (h4 : d ≤ k) (t : Int) (ht1 : 1 ≤ t) (ht2 : t ≤ 8) (L : Int) (hL : 0 ≤ L) (hL2 : L ≤ 64) :
    0 ≤ 4294967296 / k ∧ 4294967296 / k ≤ 4294967296 ∧ 0 ≤ 4294967296 * t / (d * k) ∧ 4294967296 * t / (d * k) ≤ 34359738368 ∧ 0 ≤ 4294967296 * t * L / k ∧ 4294967296 * t * L / k ≤ 2199023255552 := by
  have hdk : 1 ≤ d * k := by
    have : (1 : Int) * 1 ≤ d * k := Int.mul_le_mul h3 h1 (by omega) (by omega)
    omega
  have hm : 0 ≤ 4294967296 * t * L := Int.mul_nonneg (by omega) hL
  have hm2 : 4294967296 * t * L ≤ 34359738368 * 64 := Int.mul_le_mul (by omega) hL2 hL (by omega)
  have a1 := div_le_self' (show (0 : Int) ≤ 4294967296 by omega) h1
  have a2 := div_le_self' (show (0 : Int) ≤ 4294967296 * t by omega) hdk
  have a3 := div_le_self' hm h1
  refine ⟨a1.1, a1.2, a2.1, by omega, a3.1, by omega⟩
theorem bitLen_small (t : Int) (h1 : 1 ≤ t) (h2 : t ≤ 8) : Lib.bitLen t.toNat ≤ 4 := by
  obtain ⟨n, rfl⟩ : ∃ n : Nat, t = (n : Int) := ⟨t.toNat, by omega⟩
  have : ∀ i : Fin 9, Lib.bitLen i.val ≤ 4 := by decide +kernel
  exact this ⟨n, by omega⟩
set_option maxHeartbeats 8000000 in
set_option maxRecDepth 100000 in
theorem weights_iter (m Bs : Nat) (hm : 1 ≤ m) (kk : Int) (h1 : 1 ≤ kk) (h2 : kk ≤ 64) (w : World) (hBs : w.heap[Bs]? = some (.cells #[.int .i64 kk] 3 (0, 0))) :
    Iter Fence.wide m Try.prog 195 #[.pointer (some ⟨Bs, 0, none⟩)] (fun d : Nat => #[.int .u64 (wt kk (d : Int))]) (fun d => (d : Int) ≤ kk) (fun d d' => d' = d + 1) (fun _ => False) (fun _ => False) (fun _ _ => True) 1 w := by
  intro L J Jx W hW hJ hJx _ hY h0
  have hlt : Bs < w.heap.size := (Array.getElem?_eq_some_iff.1 hBs).1
  have hb0 : W.heap[Bs]? = some (.cells #[.int .i64 kk] 3 (0, 0)) := (hW.block Bs hlt).trans hBs
  have hcc : W.cell? ⟨Bs, 0, none⟩ = some (.int .i64 kk) := (blk_cell hb0 0).trans rfl
  obtain ⟨hr, ht1, ht2⟩ := rt_at kk h1 h2
  have HRT := Aside0.mk hr
  have HY := Aside0.mk hY
  have H0 := Aside0.mk h0
  have HJ := Aside0.mk hJ
  clear hY hJ hJx h0 hb0 hW hBs hlt hr
  generalize hrt : rt kk = t at *
  have HT := Aside0.mk hrt
  clear hrt
  have k0 : 0 ≤ kk := by omega
  refine callsIn_of_wp Try.func195 rfl trivial ?_ rfl
  simp only [Try.ntmps195, List.size_toArray, List.length_cons, List.length_nil, Nat.reduceAdd, Nat.reduceSub, Array.replicate_succ, Array.replicate_zero, List.push_toArray, List.append_toArray, List.nil_append, List.cons_append]
  have hk0 : IntKind.u64.wrap kk = kk := u64_in (by omega)
  have ht0 : IntKind.u64.wrap t = t := u64_in (by omega)
  have HT1 := Aside0.mk (And.intro ht1 ht2)
  have HK1 := Aside0.mk (And.intro h1 h2)
  clear h1 h2 ht1 ht2 k0
  gi_wp2
  gi_region_with (refine ⟨trivial, ?_⟩; gi_at_call 196; refine callsIn_wide.2 ((degree_root.calls 18 kk t _ HRT.out).mono ?_); rintro e w' ⟨rfl, ⟨nd, rfl⟩⟩)
  all_goals
    have HJ1 := Aside0.mk (HJ.out _ _ _ H0.out (show ItStep (fun _ => False) W (W.drewN (1 + nd)) from ItStep.of_below (Drawn0.below ⟨⟨_, rfl⟩⟩)))
    generalize W.drewN (1 + nd) = W1 at *
    clear hcc
    gi_wp2
    gi_loopg [5] kk.toNat (fun gk v5 wr => ∃ d : Nat, v5 = .int .u64 (d : Int) ∧ Aside0 (1 ≤ d ∧ (d : Int) ≤ kk + 1 ∧ kk.toNat + 1 - d ≤ gk) ∧ Aside0 (J d wr))
    case atStart => exact ⟨1, rfl, ⟨by have := HK1.out; omega⟩, HJ1⟩
    case round =>
      obtain ⟨d, rfl, HK, HJD⟩ := hrel
      by_cases hi : (d : Int) ≤ kk
      · have hib : decide ((d : Int) ≤ kk) = true := decide_eq_true hi
        have HI := Aside0.mk hi
        obtain ⟨z1, z2⟩ := HK1.out
        obtain ⟨z3, z4⟩ := HT1.out
        obtain ⟨z5, z6, z7⟩ := HK.out
        obtain ⟨r1, r2, r3, r4, r5, r6⟩ := wt_range kk d z1 z2 (by omega) hi t z3 z4 (Lib.bitLen t.toNat : Int) (by omega) (by have := bitLen_small t z3 z4; omega)
        have hwr : IntKind.u64.wrap ((d : Int) + 1) = ((d + 1 : Nat) : Int) := by rw [u64_in (by omega)]; rfl
        have hkn : ¬ kk = 0 := by omega
        have htn : ¬ t = 0 := by omega
        have e1 : (4294967296 : Int).tdiv kk = 4294967296 / kk := tdiv_in (by omega)
        have e2 : kk.tdiv t = kk / t := tdiv_in (by omega)
        have e3 : IntKind.u64.wrap (4294967296 * t) = 4294967296 * t := u64_in (by omega)
        have hdk : 1 ≤ (d : Int) * kk ∧ (d : Int) * kk ≤ 4096 := by
          have y1 : (1 : Int) * 1 ≤ (d : Int) * kk := Int.mul_le_mul (by omega) (by omega) (by omega) (by omega)
          have y2 : (d : Int) * kk ≤ 64 * 64 := Int.mul_le_mul (by omega) (by omega) (by omega) (by omega)
          omega
        have e4 : IntKind.u64.wrap ((d : Int) * kk) = (d : Int) * kk := u64_in (by omega)
        have e5 : ¬ (d : Int) * kk = 0 := by omega
        have e6 : (4294967296 * t).tdiv ((d : Int) * kk) = 4294967296 * t / ((d : Int) * kk) := tdiv_in (by omega)
        have e7 : IntKind.u64.wrap (Lib.bitLen t.toNat : Int) = (Lib.bitLen t.toNat : Int) := u64_in (by have := bitLen_small t z3 z4; omega)
        have e8 : 0 ≤ 4294967296 * t * (Lib.bitLen t.toNat : Int) ∧ 4294967296 * t * (Lib.bitLen t.toNat : Int) ≤ 34359738368 * 64 :=
          ⟨Int.mul_nonneg (by omega) (by omega), Int.mul_le_mul (by omega) (by have := bitLen_small t z3 z4; omega) (by omega) (by omega)⟩
        have e9 : IntKind.u64.wrap (4294967296 * t * (Lib.bitLen t.toNat : Int)) = 4294967296 * t * (Lib.bitLen t.toNat : Int) := u64_in (by omega)
        have e10 : (4294967296 * t * (Lib.bitLen t.toNat : Int)).tdiv kk = 4294967296 * t * (Lib.bitLen t.toNat : Int) / kk := tdiv_in e8.1
        have w1 : IntKind.u64.wrap (4294967296 / kk) = 4294967296 / kk := u64_in (by omega)
        have w2 : IntKind.u64.wrap (kk / t) = kk / t := u64_in (by have := div_le_self' (show 0 ≤ kk by omega) z3; omega)
        have w3 : IntKind.u64.wrap (4294967296 * t / ((d : Int) * kk)) = 4294967296 * t / ((d : Int) * kk) := u64_in (by omega)
        have w4 : IntKind.u64.wrap (4294967296 * t * (Lib.bitLen t.toNat : Int) / kk) = 4294967296 * t * (Lib.bitLen t.toNat : Int) / kk := u64_in (by omega)
        obtain ⟨Z, hZ⟩ : ∃ Z, 4294967296 * t / ((d : Int) * kk) = Z := ⟨_, rfl⟩
        obtain ⟨N, hN⟩ : ∃ N, 4294967296 * t * (Lib.bitLen t.toNat : Int) / kk = N := ⟨_, rfl⟩
        obtain ⟨q, hQ⟩ : ∃ q, kk / t = q := ⟨_, rfl⟩
        obtain ⟨A, hA⟩ : ∃ A, 4294967296 / kk = A := ⟨_, rfl⟩
        obtain ⟨Ln, hL⟩ : ∃ Ln, (Lib.bitLen t.toNat : Int) = Ln := ⟨_, rfl⟩
        rw [hZ] at e6 w3 r3 r4; rw [hN] at e10 w4 r5 r6; rw [hQ] at e2 w2; rw [hA] at e1 w1 r1 r2
        have HZ := Aside0.mk hZ
        have HN := Aside0.mk hN
        have HQ := Aside0.mk hQ
        have HA := Aside0.mk hA
        have HL := Aside0.mk hL
        rw [hL] at e7 e9 e10
        clear hZ hN hQ hA hL e8 hdk
        by_cases hd : (d : Int) > 1
        · have hd1 : decide ((d : Int) > 1) = true := decide_eq_true hd
          have dd1 : IntKind.u64.wrap ((d : Int) - 1) = (d : Int) - 1 := u64_in (by omega)
          have hdd : 1 ≤ (d : Int) * ((d : Int) - 1) ∧ (d : Int) * ((d : Int) - 1) ≤ 4096 := by
            have y1 : (1 : Int) * 1 ≤ (d : Int) * ((d : Int) - 1) := Int.mul_le_mul (by omega) (by omega) (by omega) (by omega)
            have y2 : (d : Int) * ((d : Int) - 1) ≤ 64 * 64 := Int.mul_le_mul (by omega) (by omega) (by omega) (by omega)
            omega
          have dd2 : IntKind.u64.wrap ((d : Int) * ((d : Int) - 1)) = (d : Int) * ((d : Int) - 1) := u64_in (by omega)
          have dd3 : ¬ (d : Int) * ((d : Int) - 1) = 0 := by omega
          have dd4 : (4294967296 : Int).tdiv ((d : Int) * ((d : Int) - 1)) = 4294967296 / ((d : Int) * ((d : Int) - 1)) := tdiv_in (by omega)
          have dd5 := div_le_self' (show (0 : Int) ≤ 4294967296 by omega) hdd.1
          have dd6 : IntKind.u64.wrap (4294967296 / ((d : Int) * ((d : Int) - 1))) = 4294967296 / ((d : Int) * ((d : Int) - 1)) := u64_in (by omega)
          obtain ⟨B, hB⟩ : ∃ B, 4294967296 / ((d : Int) * ((d : Int) - 1)) = B := ⟨_, rfl⟩
          rw [hB] at dd4 dd5 dd6
          have HB := Aside0.mk (show wtBase kk (d : Int) = B by unfold wtBase; rw [if_pos hd, hB])
          clear hB hdd hd
          rcases Int.lt_trichotomy (d : Int) q with hq | hq | hq
          · have hq1 : decide ((d : Int) < q) = true := decide_eq_true hq
            have hV : IntKind.u64.wrap (B + Z) = B + Z := u64_in (by omega)
            have HWT := Aside0.mk (show wt kk (d : Int) = B + Z by unfold wt; rw [if_pos (by rw [HT.out, HQ.out]; exact hq), HB.out, HT.out, HZ.out])
            clear hq
            gi_wp2
            obtain ⟨fn, tmps, assign, body, hy, hR⟩ := HY.out d _ HJD.out HI.out
            simp only [HWT.out] at hy
            rw [hy]
            rw [Oper.uponIn_round]
            refine ⟨fun _ => by have := hm; omega, hR.mono ?_⟩
            rintro e W4 (⟨rfl, hks, s', rfl, hj4⟩ | ⟨rfl, hx4⟩)
            · have HJ4 := Aside0.mk hj4
              clear hks hy hR hj4
              gi_wp2
              gi_roundg (gk - 1)
              case measure => have := HK.out; have := HI.out; omega
              case rel => exact ⟨d + 1, by first | rfl | (rw [hwr]) | (simp [hwr]), ⟨by have := HK.out; have := HI.out; omega⟩, HJ4⟩
            · clear hy hR
              have HX := Aside0.mk hx4
              clear hx4
              gi_wp2
              refine bodyPost_ret (results_none rfl _ _ _) rfl ?_
              exact ⟨⟨_, rfl⟩, .inr HX.out⟩
          · have hq1 : decide ((d : Int) < q) = false := decide_eq_false (by omega)
            have hq2 : ((d : Int) == q) = true := beq_iff_eq.mpr hq
            have hV : IntKind.u64.wrap (B + N) = B + N := u64_in (by omega)
            have HWT := Aside0.mk (show wt kk (d : Int) = B + N by unfold wt; rw [if_neg (by rw [HT.out, HQ.out]; omega), if_pos (by rw [HT.out, HQ.out]; exact hq), HB.out, HT.out, HN.out])
            clear hq
            gi_wp2_with (refine ⟨trivial, ?_⟩; gi_at_call 157; refine callsIn_wide.2 ((Try.bits_Len64 t _ (by have := HT1.out; omega) (by have := HT1.out; omega)).mono ?_); rintro e w' ⟨rfl, rfl⟩; rw [HL.out])
            obtain ⟨fn, tmps, assign, body, hy, hR⟩ := HY.out d _ HJD.out HI.out
            simp only [HWT.out] at hy
            rw [hy]
            rw [Oper.uponIn_round]
            refine ⟨fun _ => by have := hm; omega, hR.mono ?_⟩
            rintro e W4 (⟨rfl, hks, s', rfl, hj4⟩ | ⟨rfl, hx4⟩)
            · have HJ4 := Aside0.mk hj4
              clear hks hy hR hj4
              gi_wp2
              gi_roundg (gk - 1)
              case measure => have := HK.out; have := HI.out; omega
              case rel => exact ⟨d + 1, by first | rfl | (rw [hwr]) | (simp [hwr]), ⟨by have := HK.out; have := HI.out; omega⟩, HJ4⟩
            · clear hy hR
              have HX := Aside0.mk hx4
              clear hx4
              gi_wp2
              refine bodyPost_ret (results_none rfl _ _ _) rfl ?_
              exact ⟨⟨_, rfl⟩, .inr HX.out⟩
          · have hq1 : decide ((d : Int) < q) = false := decide_eq_false (by omega)
            have hq2 : ((d : Int) == q) = false := beq_eq_false_iff_ne.mpr (by omega)
            have HWT := Aside0.mk (show wt kk (d : Int) = B by unfold wt; rw [if_neg (by rw [HT.out, HQ.out]; omega), if_neg (by rw [HT.out, HQ.out]; omega), HB.out])
            clear hq
            gi_wp2
            obtain ⟨fn, tmps, assign, body, hy, hR⟩ := HY.out d _ HJD.out HI.out
            simp only [HWT.out] at hy
            rw [hy]
            rw [Oper.uponIn_round]
            refine ⟨fun _ => by have := hm; omega, hR.mono ?_⟩
            rintro e W4 (⟨rfl, hks, s', rfl, hj4⟩ | ⟨rfl, hx4⟩)
            · have HJ4 := Aside0.mk hj4
              clear hks hy hR hj4
              gi_wp2
              gi_roundg (gk - 1)
              case measure => have := HK.out; have := HI.out; omega
              case rel => exact ⟨d + 1, by first | rfl | (rw [hwr]) | (simp [hwr]), ⟨by have := HK.out; have := HI.out; omega⟩, HJ4⟩
            · clear hy hR
              have HX := Aside0.mk hx4
              clear hx4
              gi_wp2
              refine bodyPost_ret (results_none rfl _ _ _) rfl ?_
              exact ⟨⟨_, rfl⟩, .inr HX.out⟩
        · have hd1 : decide ((d : Int) > 1) = false := decide_eq_false hd
          have HB := Aside0.mk (show wtBase kk (d : Int) = A by unfold wtBase; rw [if_neg hd, HA.out])
          clear hd
          rcases Int.lt_trichotomy (d : Int) q with hq | hq | hq
          · have hq1 : decide ((d : Int) < q) = true := decide_eq_true hq
            have hV : IntKind.u64.wrap (A + Z) = A + Z := u64_in (by omega)
            have HWT := Aside0.mk (show wt kk (d : Int) = A + Z by unfold wt; rw [if_pos (by rw [HT.out, HQ.out]; exact hq), HB.out, HT.out, HZ.out])
            clear hq
            gi_wp2
            obtain ⟨fn, tmps, assign, body, hy, hR⟩ := HY.out d _ HJD.out HI.out
            simp only [HWT.out] at hy
            rw [hy]
            rw [Oper.uponIn_round]
            refine ⟨fun _ => by have := hm; omega, hR.mono ?_⟩
            rintro e W4 (⟨rfl, hks, s', rfl, hj4⟩ | ⟨rfl, hx4⟩)
            · have HJ4 := Aside0.mk hj4
              clear hks hy hR hj4
              gi_wp2
              gi_roundg (gk - 1)
              case measure => have := HK.out; have := HI.out; omega
              case rel => exact ⟨d + 1, by first | rfl | (rw [hwr]) | (simp [hwr]), ⟨by have := HK.out; have := HI.out; omega⟩, HJ4⟩
            · clear hy hR
              have HX := Aside0.mk hx4
              clear hx4
              gi_wp2
              refine bodyPost_ret (results_none rfl _ _ _) rfl ?_
              exact ⟨⟨_, rfl⟩, .inr HX.out⟩
          · have hq1 : decide ((d : Int) < q) = false := decide_eq_false (by omega)
            have hq2 : ((d : Int) == q) = true := beq_iff_eq.mpr hq
            have hV : IntKind.u64.wrap (A + N) = A + N := u64_in (by omega)
            have HWT := Aside0.mk (show wt kk (d : Int) = A + N by unfold wt; rw [if_neg (by rw [HT.out, HQ.out]; omega), if_pos (by rw [HT.out, HQ.out]; exact hq), HB.out, HT.out, HN.out])
            clear hq
            gi_wp2_with (refine ⟨trivial, ?_⟩; gi_at_call 157; refine callsIn_wide.2 ((Try.bits_Len64 t _ (by have := HT1.out; omega) (by have := HT1.out; omega)).mono ?_); rintro e w' ⟨rfl, rfl⟩; rw [HL.out])
            obtain ⟨fn, tmps, assign, body, hy, hR⟩ := HY.out d _ HJD.out HI.out
            simp only [HWT.out] at hy
            rw [hy]
            rw [Oper.uponIn_round]
            refine ⟨fun _ => by have := hm; omega, hR.mono ?_⟩
            rintro e W4 (⟨rfl, hks, s', rfl, hj4⟩ | ⟨rfl, hx4⟩)
            · have HJ4 := Aside0.mk hj4
              clear hks hy hR hj4
              gi_wp2
              gi_roundg (gk - 1)
              case measure => have := HK.out; have := HI.out; omega
              case rel => exact ⟨d + 1, by first | rfl | (rw [hwr]) | (simp [hwr]), ⟨by have := HK.out; have := HI.out; omega⟩, HJ4⟩
            · clear hy hR
              have HX := Aside0.mk hx4
              clear hx4
              gi_wp2
              refine bodyPost_ret (results_none rfl _ _ _) rfl ?_
              exact ⟨⟨_, rfl⟩, .inr HX.out⟩
          · have hq1 : decide ((d : Int) < q) = false := decide_eq_false (by omega)
            have hq2 : ((d : Int) == q) = false := beq_eq_false_iff_ne.mpr (by omega)
            have HWT := Aside0.mk (show wt kk (d : Int) = A by unfold wt; rw [if_neg (by rw [HT.out, HQ.out]; omega), if_neg (by rw [HT.out, HQ.out]; omega), HB.out])
            clear hq
            gi_wp2
            obtain ⟨fn, tmps, assign, body, hy, hR⟩ := HY.out d _ HJD.out HI.out
            simp only [HWT.out] at hy
            rw [hy]
            rw [Oper.uponIn_round]
            refine ⟨fun _ => by have := hm; omega, hR.mono ?_⟩
            rintro e W4 (⟨rfl, hks, s', rfl, hj4⟩ | ⟨rfl, hx4⟩)
            · have HJ4 := Aside0.mk hj4
              clear hks hy hR hj4
              gi_wp2
              gi_roundg (gk - 1)
              case measure => have := HK.out; have := HI.out; omega
              case rel => exact ⟨d + 1, by first | rfl | (rw [hwr]) | (simp [hwr]), ⟨by have := HK.out; have := HI.out; omega⟩, HJ4⟩
            · clear hy hR
              have HX := Aside0.mk hx4
              clear hx4
              gi_wp2
              refine bodyPost_ret (results_none rfl _ _ _) rfl ?_
              exact ⟨⟨_, rfl⟩, .inr HX.out⟩
      · have hib : decide ((d : Int) ≤ kk) = false := decide_eq_false hi
        have HI := Aside0.mk hi
        clear hi
        gi_wp2
        refine bodyPost_end (results_none rfl _ _ _) rfl ?_
        exact ⟨⟨_, rfl⟩, .inl ⟨d, HI.out, HJD.out⟩⟩
end Go.Proofs.Ytaofanhdmfdlmaa.Print

