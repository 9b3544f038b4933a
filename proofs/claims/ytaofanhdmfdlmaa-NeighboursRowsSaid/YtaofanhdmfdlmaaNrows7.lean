import Derived.Test.YtaofanhdmfdlmaaNrows0
import Derived.Test.YtaofanhdmfdlmaaNrows2
-- PRINTED by print.py (a twelfth state) out of the translation. Not trusted: Lean checks it.
namespace Go.Proofs.Ytaofanhdmfdlmaa.Print
open Go.RowKit Go.Proofs.YtaofanhdmfdlmaaW.PrintWords Go.Proofs.YtaofanhdmfdlmaaW.PrintLast Go.Proofs.YtaofanhdmfdlmaaW.PrintMore
attribute [local go_sem] max2_int min2_int max_two min_two max_three min_three max_four min_four   -- for this text's walks alone
set_option linter.unusedVariables false
set_option linter.unusedSimpArgs false

/-! ### downpourref06_Shuffle: function 26 -/
mutual
def downpourref06_Shuffle.l0 : Nat → Int → Int → List Int → Int → Option (Int × List Int)
  | 0, _, _, _, _ => none
  | k + 1, x0, x1, x5, x6 => if x6 < x1 then (if x5.length < 17592186044416 then (downpourref06_Shuffle.l0 k x0 x1 (x5 ++ [x6]) (wrap64 (x6 + 1))) else (none)) else (downpourref06_Shuffle.l1 k x0 x5 (wrap64 (x1 - 1)))
def downpourref06_Shuffle.l1 : Nat → Int → List Int → Int → Option (Int × List Int)
  | 0, _, _, _ => none
  | k + 1, x0, x5, x7 => if x7 > 0 then ((downpourref06_Below.f k x0 (wrap64 (x7 + 1))).bind fun bt439 => (if 0 ≤ x7 then (if x7 < (x5.length : Int) then (if 0 ≤ bt439.2 then (if bt439.2 < (x5.length : Int) then (downpourref06_Shuffle.l1 k bt439.1 ((x5.set (x7 : Int).toNat (rd x5 bt439.2)).set (bt439.2 : Int).toNat (rd x5 x7)) (wrap64 (x7 - 1))) else (none)) else (none)) else (none)) else (none))) else (some (x0, x5))
end
def downpourref06_Shuffle.f (k : Nat) (a0 : Int) (a1 : Int) : Option (Int × List Int) := downpourref06_Shuffle.l0 k a0 a1 (([] : List Int)) 0
set_option maxHeartbeats 8000000 in
set_option maxRecDepth 100000 in
theorem downpourref06_Shuffle.calls (k : Nat) (a0 : Int) (a1 : Int) (r1 : Int) (r2 : List Int) (w : World) (h : downpourref06_Shuffle.f k a0 a1 = some (r1, r2)) :
    Calls Try.prog 26 #[.int .u64 a0, .int .i64 a1] w fun e w' => ∃ v1_ : Value, e = .returned (.agg #[.int .u64 r1, v1_]) ∧ Kd.R (Kd.int .i64) 3 w' w.heap.size (fun _ => True) v1_ r2 ∧ Below w.heap.size w w' := by
  have hu45 := Try.underlying45
  have hu129 := Try.underlying129
  have HB := Aside0.mk (Below.refl w.heap.size w)
  have H : (downpourref06_Shuffle.l0 k a0 a1 (([] : List Int)) 0) = some (r1, r2) := h
  clear h
  obtain ⟨y433, hy433⟩ : ∃ y_ : List Int, y_ = (([] : List Int)) := ⟨_, rfl⟩
  replace H : (downpourref06_Shuffle.l0 k a0 a1 y433 0) = some (r1, r2) := by first | (rw [hy433]; with_reducible exact H) | (have H2_ := (Option.bind_some _ _).symm.trans H; rw [hy433]; with_reducible exact H2_) | (have H2_ := (Option.bind_some _ _).symm.trans H; with_reducible exact H2_) | with_reducible exact H | (rw [hy433]; exact H) | exact H
  have Ny433 := Aside0.mk hy433
  clear hy433
  have H' := Aside0.mk H
  clear H
  go_enter Try.func26, Try.ntmps26
  go_wp2_with (first | ((with_reducible refine gate_dst (N := 4) rfl ?_); refine box_event ?hg (N := 4) ?hd (cs := #[.int .u64 0, .slice none 0 0]) (t := 45) ?hr ?_; (case hd => rfl); (case hg => rfl); (case hr => first | (go_simp; done) | (go_simp; rfl)); intro gb432 hg w3 hbox hb; have n0_ := Aside0.mk (below_step (by repeat (first | (with_reducible first | exact HB.out | apply below_alloc | apply pw_below_drewN | apply below_drew1) | exact HB.out)) hb); have n1_ := Aside0.mk (hbox); have n2_ := Aside0.mk ((by rw [hg]; exact (below_size (by repeat (first | (with_reducible first | exact HB.out | apply below_alloc | apply pw_below_drewN | apply below_drew1) | exact HB.out))) : w.heap.size ≤ gb432)); have n3_ := Aside0.mk ((by rw [hg]; exact (below_size (by repeat (first | (with_reducible first | exact HB.out | apply below_alloc | apply pw_below_drewN | apply below_drew1) | exact HB.out))) : w.heap.size ≤ gb432)); clear HB; have HB := n0_; have BK432 := n1_; have GW432 := n2_; have GE432 := n3_; clear n0_ n1_ n2_ n3_; clear hb hbox hg) | ((with_reducible refine gate_dst (N := 10) rfl ?_); refine Kd.R_lit (Kd.int .i64) _ 3 ?hg (N := 10) ?hd (xs := ([] : List Int)) (inner := []) (ok := fun _ => True) (okp := fun _ => True) ?hr ?hp (fun _ hk => hk) trivial (Below.refl _ _) (Nat.le_refl _) (by simp) ?_; (case hd => rfl); (case hg => rfl); (case hr => first | (go_simp; done) | (go_simp; rfl)); (case hp => exact (Reps.none _ _)); intro v434 w4 ho5 hb hg_ hnew_; clear hg_ hnew_; (first | rw [← Ny433.out] at ho5 | (simp only [Int.reduceToNat] at ho5; rw [← Ny433.out] at ho5)); have n0_ := Aside0.mk (Kd.R_lower ho5 (below_size (by repeat (first | (with_reducible first | exact HB.out | apply below_alloc | apply pw_below_drewN | apply below_drew1 | refine below_set ?_ GE432.out) | exact HB.out)))); have n1_ := Aside0.mk (blk_below (g := gb432) (o := .cells #[.int .u64 0, .slice none 0 0] 45 (0, 0)) (by (with_reducible repeat (first | refine blk_drewN ?_ _ | refine blk_drew ?_ | refine blk_alloc ?_ _)); exact BK432.out) hb); have n2_ := Aside0.mk (below_step (by repeat (first | (with_reducible first | exact HB.out | apply below_alloc | apply pw_below_drewN | apply below_drew1 | refine below_set ?_ GE432.out) | exact HB.out)) hb); clear BK432; clear HB; have HO435 := n0_; have BK432 := n1_; have HB := n2_; clear n0_ n1_ n2_; clear hb ho5))
  go_loopg [5, 6] k (fun kq v5 v6 w' => ∃ (x5_1 : List Int) (x6_1 : Int), v6 = .int .i64 x6_1 ∧ Aside0 (downpourref06_Shuffle.l0 kq a0 a1 x5_1 x6_1 = some (r1, r2)) ∧ Aside0 (kq ≤ k) ∧ Aside0 (Kd.R (Kd.int .i64) 3 w' w.heap.size (fun _ => True) v5 x5_1) ∧ Aside0 (w'.heap[gb432]? = some (.cells #[.int .u64 0, (.slice none 0 0)] 45 (0, 0))) ∧ Aside0 (Below w.heap.size w w'))
  case atStart => exact ⟨(y433), (0), (by first | rfl | (simp; done) | (simp [*]; done)), H', ⟨Nat.le_refl _⟩, ⟨by (with_reducible repeat (first | apply Kd.R_alloc | apply Kd.R_drewN | apply Kd.R_drew)); exact HO435.out⟩, ⟨by (with_reducible repeat (first | refine blk_drewN ?_ _ | refine blk_drew ?_ | refine blk_alloc ?_ _)); exact BK432.out⟩, ⟨by repeat (first | (with_reducible first | exact HB.out | apply below_alloc | apply pw_below_drewN | apply below_drew1 | refine below_set ?_ GE432.out) | exact HB.out)⟩⟩
  case round =>
    clear H'
    try clear c2
    try clear p2
    obtain ⟨x5_1, x6_1, rfl, HA, HK1, HO_5, BK432, HB⟩ := hrel
    cases gk with
    | zero => exact absurd HA.out (by simp [downpourref06_Shuffle.l0])
    | succ k1 =>
      have H := HA.out
      clear HA
      simp only [downpourref06_Shuffle.l0] at H
      by_cases c6 : x6_1 < a1
      · rw [if_pos c6] at H
        have c6b0 : decide (x6_1 < a1) = true := decide_eq_true c6
        clear c6
        by_cases c7 : x5_1.length < 17592186044416
        · rw [if_pos c7] at H
          have LMc7 := Aside0.mk c7
          clear c7
          obtain ⟨y436, hy436⟩ : ∃ y_ : List Int, y_ = (x5_1 ++ [x6_1]) := ⟨_, rfl⟩
          replace H : (downpourref06_Shuffle.l0 k1 a0 a1 y436 (wrap64 (x6_1 + 1))) = some (r1, r2) := by first | (rw [hy436]; with_reducible exact H) | (have H2_ := (Option.bind_some _ _).symm.trans H; rw [hy436]; with_reducible exact H2_) | (have H2_ := (Option.bind_some _ _).symm.trans H; with_reducible exact H2_) | with_reducible exact H | (rw [hy436]; exact H) | exact H
          have Ny436 := Aside0.mk hy436
          clear hy436
          have H' := Aside0.mk H
          clear H
          go_wp2_with (first | ((with_reducible refine gate_builtin (b := .append) (xs := #[.tmp 16, .tmp 18]) rfl ?_); at_builtin; refine Kd.R_append (Kd.int .i64) (w0 := w) w.heap.size rfl (.tmp 16) (.tmp 18) 40 3 (.int .i64 0) 8 rfl Try.underlying40 info3 rfl (by decide) (by omega) u5 x5_1 x6_1 [.int .i64 x6_1] (fun _ => True) (fun _ => False) rfl rfl ?aP (fun _ hk => hk.elim) ?aF ?aO ?aB ?aS ?aL ?_; (case aP => exact rfl); (case aB => exact (by repeat (first | (with_reducible first | exact HB.out | apply below_alloc | apply pw_below_drewN | apply below_drew1 | refine below_set ?_ GE432.out) | exact HB.out))); (case aF => exact (fun _ _ => trivial)); (case aO => exact (by (with_reducible repeat (first | apply Kd.R_alloc | apply Kd.R_drewN | apply Kd.R_drew)); exact HO_5.out)); (case aS => exact (below_size (by repeat (first | (with_reducible first | exact HB.out | apply below_alloc | apply pw_below_drewN | apply below_drew1 | refine below_set ?_ GE432.out) | exact HB.out)))); (case aL => have := LMc7.out; omega); intro v437 w8 ho hb hg hat; rw [← Ny436.out] at ho; have n0_ := Aside0.mk (blk_grown (g := gb432) (o := .cells #[.int .u64 0, .slice none 0 0] 45 (0, 0)) (by (with_reducible repeat (first | refine blk_drewN ?_ _ | refine blk_drew ?_ | refine blk_alloc ?_ _)); exact BK432.out) hg (Kd.R_ne HO_5.out BK432.out (by decide))); have n1_ := Aside0.mk (hb); have n2_ := Aside0.mk (ho); clear BK432; clear HB; clear HO_5; have BK432 := n0_; have HB := n1_; have HO438 := n2_; clear n0_ n1_ n2_; clear ho hb hg hat))
          go_roundg k1
          case measure => have := HK1.out; omega
          case rel => exact ⟨(y436), (wrap64 (x6_1 + 1)), (by first | rfl | (simp; done) | (simp [*]; done)), H', ⟨by have := HK1.out; omega⟩, ⟨by (with_reducible repeat (first | apply Kd.R_alloc | apply Kd.R_drewN | apply Kd.R_drew)); exact HO438.out⟩, ⟨by (with_reducible repeat (first | refine blk_drewN ?_ _ | refine blk_drew ?_ | refine blk_alloc ?_ _)); exact BK432.out⟩, ⟨by repeat (first | (with_reducible first | exact HB.out | apply below_alloc | apply pw_below_drewN | apply below_drew1 | refine below_set ?_ GE432.out) | exact HB.out)⟩⟩
        · rw [if_neg c7] at H
          exact absurd H (by simp)
      · rw [if_neg c6] at H
        have c6b0 : decide (x6_1 < a1) = false := decide_eq_false c6
        clear c6
        have H' := Aside0.mk H
        clear H
        go_wp2
        go_loopg [0, 7] k1 (fun kq v0 v7 w' => ∃ (x0_2 : Int) (x5_2 : List Int) (x7_2 : Int), v0 = .int .u64 x0_2 ∧ v7 = .int .i64 x7_2 ∧ Aside0 (downpourref06_Shuffle.l1 kq x0_2 x5_2 x7_2 = some (r1, r2)) ∧ Aside0 (kq ≤ k1) ∧ Aside0 (Kd.R (Kd.int .i64) 3 w' w.heap.size (fun _ => True) u5 x5_2) ∧ Aside0 (w'.heap[gb432]? = some (.cells #[.int .u64 0, (.slice none 0 0)] 45 (0, 0))) ∧ Aside0 (Below w.heap.size w w'))
        case atStart => exact ⟨(a0), (x5_1), (wrap64 (a1 - 1)), (by first | rfl | (simp; done) | (simp [*]; done)), (by first | rfl | (simp; done) | (simp [*]; done)), H', ⟨Nat.le_refl _⟩, ⟨by (with_reducible repeat (first | apply Kd.R_alloc | apply Kd.R_drewN | apply Kd.R_drew)); exact HO_5.out⟩, ⟨by (with_reducible repeat (first | refine blk_drewN ?_ _ | refine blk_drew ?_ | refine blk_alloc ?_ _)); exact BK432.out⟩, ⟨by repeat (first | (with_reducible first | exact HB.out | apply below_alloc | apply pw_below_drewN | apply below_drew1 | refine below_set ?_ GE432.out) | exact HB.out)⟩⟩
        case round =>
          clear H'
          try clear c2
          try clear p2
          try clear c6
          try clear c6b0
          try clear p6
          try clear c7
          try clear p2
          obtain ⟨x0_2, x5_2, x7_2, rfl, rfl, HA, HK2, HO_5, BK432, HB⟩ := hrel
          cases gk with
          | zero => exact absurd HA.out (by simp [downpourref06_Shuffle.l1])
          | succ k2 =>
            have H := HA.out
            clear HA
            simp only [downpourref06_Shuffle.l1] at H
            by_cases c9 : x7_2 > 0
            · rw [if_pos c9] at H
              have c9b0 : decide (0 < x7_2) = true := decide_eq_true c9
              clear c9
              replace H := Option.bind_eq_some_iff.mp H
              obtain ⟨⟨t439, t440⟩, A100, H⟩ := H
              replace H : (if 0 ≤ x7_2 then (if x7_2 < (x5_2.length : Int) then (if 0 ≤ t440 then (if t440 < (x5_2.length : Int) then (downpourref06_Shuffle.l1 k2 t439 ((x5_2.set (x7_2 : Int).toNat (rd x5_2 t440)).set (t440 : Int).toNat (rd x5_2 x7_2)) (wrap64 (x7_2 - 1))) else (none)) else (none)) else (none)) else (none)) = some (r1, r2) := H
              have A10 := Aside0.mk A100
              clear A100
              by_cases c11 : 0 ≤ x7_2
              · rw [if_pos c11] at H
                have c11b0 : decide (0 ≤ x7_2) = true := decide_eq_true c11
                clear c11
                by_cases c12 : x7_2 < (x5_2.length : Int)
                · rw [if_pos c12] at H
                  have c12b0 : decide (x7_2 < (x5_2.length : Int)) = true := decide_eq_true c12
                  clear c12
                  by_cases c13 : 0 ≤ t440
                  · rw [if_pos c13] at H
                    have c13b0 : decide (0 ≤ t440) = true := decide_eq_true c13
                    clear c13
                    by_cases c14 : t440 < (x5_2.length : Int)
                    · rw [if_pos c14] at H
                      have c14b0 : decide (t440 < (x5_2.length : Int)) = true := decide_eq_true c14
                      clear c14
                      obtain ⟨y444, hy444⟩ : ∃ y_ : List Int, y_ = (x5_2.set (x7_2 : Int).toNat (rd x5_2 t440)) := ⟨_, rfl⟩
                      replace H : (downpourref06_Shuffle.l1 k2 t439 (y444.set (t440 : Int).toNat (rd x5_2 x7_2)) (wrap64 (x7_2 - 1))) = some (r1, r2) := by first | (rw [hy444]; with_reducible exact H) | (have H2_ := (Option.bind_some _ _).symm.trans H; rw [hy444]; with_reducible exact H2_) | (have H2_ := (Option.bind_some _ _).symm.trans H; with_reducible exact H2_) | with_reducible exact H | (rw [hy444]; exact H) | exact H
                      have Ny444 := Aside0.mk hy444
                      clear hy444
                      obtain ⟨y445, hy445⟩ : ∃ y_ : List Int, y_ = (y444.set (t440 : Int).toNat (rd x5_2 x7_2)) := ⟨_, rfl⟩
                      replace H : (downpourref06_Shuffle.l1 k2 t439 y445 (wrap64 (x7_2 - 1))) = some (r1, r2) := by first | (rw [hy445]; with_reducible exact H) | (have H2_ := (Option.bind_some _ _).symm.trans H; rw [hy445]; with_reducible exact H2_) | (have H2_ := (Option.bind_some _ _).symm.trans H; with_reducible exact H2_) | with_reducible exact H | (rw [hy445]; exact H) | exact H
                      have Ny445 := Aside0.mk hy445
                      clear hy445
                      have H' := Aside0.mk H
                      clear H
                      go_wp2_with (first | ((with_reducible refine gate_callee (f := 85) rfl ?_); refine goesL_ (some 29) rfl rfl Try.func85 (by kernel_rfl) rfl #[.int .u64 x0_2, .int .i64 (wrap64 (x7_2 + 1))] rfl (by (try simp only [List.map_toArray, List.map_cons, List.map_nil]); first | done | rfl | (simp only [List.length_drop, List.length_take]; rfl)) ?_; (with_reducible refine (downpourref06_Below.calls k2 x0_2 (wrap64 (x7_2 + 1)) t439 t440 _ A10.out).mono ?_); rintro e w17 ⟨rfl, hb⟩; refine ⟨_, rfl, ?_⟩; have n0_ := Aside0.mk (Kd.R_below (by (with_reducible repeat (first | apply Kd.R_alloc | apply Kd.R_drewN | apply Kd.R_drew)); exact HO_5.out) hb); have n1_ := Aside0.mk (blk_below (g := gb432) (o := .cells #[.int .u64 0, .slice none 0 0] 45 (0, 0)) (by (with_reducible repeat (first | refine blk_drewN ?_ _ | refine blk_drew ?_ | refine blk_alloc ?_ _)); exact BK432.out) hb); have n2_ := Aside0.mk (below_step (by repeat (first | (with_reducible first | exact HB.out | apply below_alloc | apply pw_below_drewN | apply below_drew1 | refine below_set ?_ GE432.out) | exact HB.out)) hb); clear HO_5; clear BK432; clear HB; have HO_5 := n0_; have BK432 := n1_; have HB := n2_; clear n0_ n1_ n2_; (try clear hb); (try clear hb2); (try clear hk); (try clear hi)) | ((with_reducible refine gate_dst (N := 8) rfl ?_); refine box_event ?hg (N := 8) ?hd (cs := #[.int .u64 0, .int .i64 0]) (t := 129) ?hr ?_; (case hd => rfl); (case hg => rfl); (case hr => first | (go_simp; done) | (go_simp; rfl)); intro gb441 hg w18 hbox hb; have n0_ := Aside0.mk (Kd.R_below (by (with_reducible repeat (first | apply Kd.R_alloc | apply Kd.R_drewN | apply Kd.R_drew)); exact HO_5.out) hb); have n1_ := Aside0.mk (blk_below (g := gb432) (o := .cells #[.int .u64 0, .slice none 0 0] 45 (0, 0)) (by (with_reducible repeat (first | refine blk_drewN ?_ _ | refine blk_drew ?_ | refine blk_alloc ?_ _)); exact BK432.out) hb); have n2_ := Aside0.mk (below_step (by repeat (first | (with_reducible first | exact HB.out | apply below_alloc | apply pw_below_drewN | apply below_drew1 | refine below_set ?_ GE432.out) | exact HB.out)) hb); have n3_ := Aside0.mk (hbox); have n4_ := Aside0.mk ((by rw [hg]; exact (below_size (by repeat (first | (with_reducible first | exact HB.out | apply below_alloc | apply pw_below_drewN | apply below_drew1 | refine below_set ?_ GE432.out) | exact HB.out))) : w.heap.size ≤ gb441)); have n5_ := Aside0.mk ((by rw [hg]; exact (below_size (by repeat (first | (with_reducible first | exact HB.out | apply below_alloc | apply pw_below_drewN | apply below_drew1 | refine below_set ?_ GE432.out) | exact HB.out))) : w.heap.size ≤ gb441)); have n6_ := Aside0.mk ((by rw [hg]; exact Nat.ne_of_lt (blk_lt (g := gb432) (o := .cells #[.int .u64 0, .slice none 0 0] 45 (0, 0)) (by (with_reducible repeat (first | refine blk_drewN ?_ _ | refine blk_drew ?_ | refine blk_alloc ?_ _)); exact BK432.out)) : gb432 ≠ gb441)); have n7_ := Aside0.mk ((by rw [hg]; exact Nat.ne_of_gt (blk_lt (g := gb432) (o := .cells #[.int .u64 0, .slice none 0 0] 45 (0, 0)) (by (with_reducible repeat (first | refine blk_drewN ?_ _ | refine blk_drew ?_ | refine blk_alloc ?_ _)); exact BK432.out)) : gb441 ≠ gb432)); clear HO_5; clear BK432; clear HB; have HO_5 := n0_; have BK432 := n1_; have HB := n2_; have BK441 := n3_; have GW441 := n4_; have GE441 := n5_; have NB432_441 := n6_; have NB441_432 := n7_; clear n0_ n1_ n2_ n3_ n4_ n5_ n6_ n7_; clear hb hbox hg; have hnb19 := NB441_432.out; have hnc19 := NB432_441.out; have hcz20_0 : w18.cell? ⟨gb441, 0, none⟩ = some (.int .u64 0) := (blk_cell BK441.out 0).trans rfl; have hcz20_1 : w18.cell? ⟨gb441, 1, none⟩ = some (.int .i64 0) := (blk_cell BK441.out 1).trans rfl; have hfz20_0 := blk_frozen BK441.out 0; have hfz20_1 := blk_frozen BK441.out 1) | ((with_reducible refine gate_store (t := 129) (p := 8) rfl ?_); refine store_event (t := 129) (p := 8) (v := ?vo_w21) (w1 := ((w18.setCell ⟨gb441, 0, none⟩ (.int .u64 t439)).setCell ⟨gb441, 1, none⟩ (.int .i64 t440))) ?hg ?ho ?hn ?hr ?_; (case ho => rfl); (case hg => rfl); (case hn => rfl); (case hr => first | (go_simp; done) | (go_simp; rfl)); intro w21 hw; have n0_ : Aside0 (Kd.R (Kd.int .i64) 3 w21 w.heap.size (fun _ => True) u5 x5_2) := ⟨(by rw [hw]; exact (by (with_reducible repeat (first | apply Kd.R_alloc | apply Kd.R_drewN | apply Kd.R_drew)); exact Kd.R_mono (Kd.R_far (p := ⟨gb441, 1, none⟩) (Kd.R_far (p := ⟨gb441, 0, none⟩) (Kd.R_types HO_5.out BK441.out (by decide)) (fun _ hk => hk.2) (.int .u64 t439)) (fun _ hk => hk.2) (.int .i64 t440)) (fun _ hk => trivial)))⟩; have n1_ : Aside0 (w21.heap[gb432]? = some (.cells #[.int .u64 0, .slice none 0 0] 45 (0, 0))) := ⟨(by rw [hw]; exact (by (with_reducible repeat (first | refine blk_drewN ?_ _ | refine blk_drew ?_ | refine blk_alloc ?_ _)); refine blk_far ?_ NB432_441.out _; (with_reducible repeat (first | refine blk_drewN ?_ _ | refine blk_drew ?_ | refine blk_alloc ?_ _)); refine blk_far ?_ NB432_441.out _; (with_reducible repeat (first | refine blk_drewN ?_ _ | refine blk_drew ?_ | refine blk_alloc ?_ _)); exact BK432.out))⟩; have n2_ : Aside0 (w21.heap[gb441]? = some (.cells #[.int .u64 t439, .int .i64 t440] 129 (0, 0))) := ⟨(by rw [hw]; exact (by (with_reducible repeat (first | refine blk_drewN ?_ _ | refine blk_drew ?_ | refine blk_alloc ?_ _)); refine blk_put (cs := #[.int .u64 t439, .int .i64 0]) ?_ 1 _ rfl; (with_reducible repeat (first | refine blk_drewN ?_ _ | refine blk_drew ?_ | refine blk_alloc ?_ _)); refine blk_put (cs := #[.int .u64 0, .int .i64 0]) ?_ 0 _ rfl; (with_reducible repeat (first | refine blk_drewN ?_ _ | refine blk_drew ?_ | refine blk_alloc ?_ _)); exact BK441.out))⟩; have n3_ : Aside0 (Below w.heap.size w w21) := ⟨(by rw [hw]; exact (by repeat (first | (with_reducible first | exact HB.out | apply below_alloc | apply pw_below_drewN | apply below_drew1 | refine below_set ?_ GE432.out | refine below_set ?_ GE441.out) | exact HB.out)))⟩; clear hw; clear HO_5; clear BK432; clear BK441; clear HB; have HO_5 := n0_; have BK432 := n1_; have BK441 := n2_; have HB := n3_; clear n0_ n1_ n2_ n3_; have hcz22_0 : w21.cell? ⟨gb441, 0, none⟩ = some (.int .u64 t439) := (blk_cell BK441.out 0).trans rfl; have hcz22_1 : w21.cell? ⟨gb441, 1, none⟩ = some (.int .i64 t440) := (blk_cell BK441.out 1).trans rfl; have hfz22_0 := blk_frozen BK441.out 0; have hfz22_1 := blk_frozen BK441.out 1; obtain ⟨Ao23, co23, eo23⟩ := Kd.R_slice HO_5.out; subst eo23; have p442 : 0 ≤ (x7_2 : Int) := of_decide_eq_true (by first | (with_reducible assumption) | assumption); have q442 : x7_2 < (x5_2.length : Int) := of_decide_eq_true (by first | (with_reducible assumption) | assumption); obtain ⟨ad442, e442, hx442_0⟩ := Kd.at_int (Kd.R_reads' HO_5.out).2.2 x7_2 p442 q442; cases e442; replace p442 := eq_true p442; replace q442 := eq_true q442; have p443 : 0 ≤ (t440 : Int) := of_decide_eq_true (by first | (with_reducible assumption) | assumption); have q443 : t440 < (x5_2.length : Int) := of_decide_eq_true (by first | (with_reducible assumption) | assumption); obtain ⟨ad443, e443, hx443_0⟩ := Kd.at_int (Kd.R_reads' HO_5.out).2.2 t440 p443 q443; obtain rfl : ad442 = ad443 := (by injection e443); replace p443 := eq_true p443; replace q443 := eq_true q443; have p15 : 0 ≤ (x7_2 : Int) := of_decide_eq_true (by first | (with_reducible assumption) | assumption); have q15 : (x7_2 : Int) < ((x5_2.length : Int) : Int) := of_decide_eq_true (by first | (with_reducible assumption) | assumption); obtain ⟨go15, co15, eo15, gb15, gl15, cl15, HG15⟩ := Kd.R_form HO_5.out (by omega); (first | cases eo15 | (injection eo15 with ea_ en_ ec_; (first | subst ea_ | (injection ea_ with ea_; subst ea_)); subst ec_; clear en_)); have GB15 := Aside0.mk gb15; have GG15 := Aside0.mk HG15; clear gb15 gl15 HG15; (first | simp only [add_plain] at hx442_0 | skip); (first | simp only [add_plain] at hx443_0 | skip); obtain ⟨hx15_0, hf15_0⟩ := Kd.R_celln 0 HO_5.out (x7_2 : Int) p15 q15; replace p15 := eq_true p15; replace q15 := eq_true q15; obtain ⟨hy24_, hz24_⟩ := Kd.R_celln 0 HO_5.out (x7_2 : Int) (of_decide_eq_true (by first | (with_reducible assumption) | assumption)) (of_decide_eq_true (by first | (with_reducible assumption) | assumption)); have HP24 := Kd.R_putg HO_5.out (x7_2 : Int) (rd x5_2 t440)) | ((with_reducible refine gate_store (t := 3) (p := 43) rfl ?_); refine store_event (t := 3) (p := 43) (v := ?vo_w25) (w1 := (w21.setCell ⟨go15, (x7_2 : Int).toNat, none⟩ (.int .i64 (rd x5_2 t440)))) ?hg ?ho ?hn ?hr ?_; (case ho => rfl); (case hg => rfl); (case hn => rfl); (case hr => first | (go_simp; done) | (go_simp; rfl)); intro w25 hw; have hg : w21.grownBy w25 (some go15) := (by rw [hw]; exact HP24.2); have hp_ : Kd.R (Kd.int .i64) 3 w25 w.heap.size (fun _ => True) (.slice (some ⟨go15, 0, none⟩) x5_2.length co23) y444 := (by rw [hw, Ny444.out]; exact HP24.1); clear HP24; have n0_ := Aside0.mk (hp_); have n1_ := Aside0.mk (blk_grown (g := gb432) (o := .cells #[.int .u64 0, .slice none 0 0] 45 (0, 0)) (by (with_reducible repeat (first | refine blk_drewN ?_ _ | refine blk_drew ?_ | refine blk_alloc ?_ _)); exact BK432.out) hg (Kd.R_ne HO_5.out BK432.out (by decide))); have n2_ := Aside0.mk (blk_grown (g := gb441) (o := .cells #[.int .u64 t439, .int .i64 t440] 129 (0, 0)) (by (with_reducible repeat (first | refine blk_drewN ?_ _ | refine blk_drew ?_ | refine blk_alloc ?_ _)); exact BK441.out) hg (Kd.R_ne HO_5.out BK441.out (by decide))); have n3_ := Aside0.mk ((by rw [hw]; exact below_set (HB.out) GB15.out : Below w.heap.size w w25)); clear HO_5; clear BK432; clear BK441; clear HB; have HO_5 := n0_; have BK432 := n1_; have BK441 := n2_; have HB := n3_; clear n0_ n1_ n2_ n3_; clear hg hw hp_; have hcz26_0 : w25.cell? ⟨gb441, 0, none⟩ = some (.int .u64 t439) := (blk_cell BK441.out 0).trans rfl; have hcz26_1 : w25.cell? ⟨gb441, 1, none⟩ = some (.int .i64 t440) := (blk_cell BK441.out 1).trans rfl; have hfz26_0 := blk_frozen BK441.out 0; have hfz26_1 := blk_frozen BK441.out 1; have p16 : 0 ≤ (t440 : Int) := of_decide_eq_true (by first | (with_reducible assumption) | assumption); have q16 : (t440 : Int) < ((x5_2.length : Int) : Int) := of_decide_eq_true (by first | (with_reducible assumption) | assumption); obtain ⟨hx16_0, hf16_0⟩ := Kd.R_celln 0 HO_5.out (t440 : Int) p16 q16; replace p16 := eq_true p16; replace q16 := eq_true q16; obtain ⟨hy27_, hz27_⟩ := Kd.R_celln 0 HO_5.out (t440 : Int) (of_decide_eq_true (by first | (with_reducible assumption) | assumption)) (of_decide_eq_true (by first | (with_reducible assumption) | assumption)); have HP27 := Kd.R_putg HO_5.out (t440 : Int) (rd x5_2 x7_2)) | ((with_reducible refine gate_store (t := 3) (p := 48) rfl ?_); refine store_event (t := 3) (p := 48) (v := ?vo_w28) (w1 := (w25.setCell ⟨go15, (t440 : Int).toNat, none⟩ (.int .i64 (rd x5_2 x7_2)))) ?hg ?ho ?hn ?hr ?_; (case ho => rfl); (case hg => rfl); (case hn => rfl); (case hr => first | (go_simp; done) | (go_simp; rfl)); intro w28 hw; have hg : w25.grownBy w28 (some go15) := (by rw [hw]; exact HP27.2); have hp_ : Kd.R (Kd.int .i64) 3 w28 w.heap.size (fun _ => True) (.slice (some ⟨go15, 0, none⟩) x5_2.length co23) y445 := (by rw [hw, Ny445.out]; exact HP27.1); clear HP27; have n0_ := Aside0.mk (hp_); have n1_ := Aside0.mk (blk_grown (g := gb432) (o := .cells #[.int .u64 0, .slice none 0 0] 45 (0, 0)) (by (with_reducible repeat (first | refine blk_drewN ?_ _ | refine blk_drew ?_ | refine blk_alloc ?_ _)); exact BK432.out) hg (Kd.R_ne HO_5.out BK432.out (by decide))); have n2_ := Aside0.mk (blk_grown (g := gb441) (o := .cells #[.int .u64 t439, .int .i64 t440] 129 (0, 0)) (by (with_reducible repeat (first | refine blk_drewN ?_ _ | refine blk_drew ?_ | refine blk_alloc ?_ _)); exact BK441.out) hg (Kd.R_ne HO_5.out BK441.out (by decide))); have n3_ := Aside0.mk ((by rw [hw]; exact below_set (HB.out) GB15.out : Below w.heap.size w w28)); clear HO_5; clear BK432; clear BK441; clear HB; have HO_5 := n0_; have BK432 := n1_; have BK441 := n2_; have HB := n3_; clear n0_ n1_ n2_ n3_; clear hg hw hp_))
                      go_roundg k2
                      case measure => have := HK1.out; have := HK2.out; omega
                      case rel => exact ⟨(t439), (y445), (wrap64 (x7_2 - 1)), (by first | rfl | (simp; done) | (simp [*]; done)), (by first | rfl | (simp; done) | (simp [*]; done)), H', ⟨by have := HK1.out; have := HK2.out; omega⟩, ⟨by (with_reducible repeat (first | apply Kd.R_alloc | apply Kd.R_drewN | apply Kd.R_drew)); exact HO_5.out⟩, ⟨by (with_reducible repeat (first | refine blk_drewN ?_ _ | refine blk_drew ?_ | refine blk_alloc ?_ _)); exact BK432.out⟩, ⟨by repeat (first | (with_reducible first | exact HB.out | apply below_alloc | apply pw_below_drewN | apply below_drew1 | refine below_set ?_ GE432.out | refine below_set ?_ GE441.out) | exact HB.out)⟩⟩
                    · rw [if_neg c14] at H
                      exact absurd H (by simp)
                  · rw [if_neg c13] at H
                    exact absurd H (by simp)
                · rw [if_neg c12] at H
                  exact absurd H (by simp)
              · rw [if_neg c11] at H
                exact absurd H (by simp)
            · rw [if_neg c9] at H
              have c9b0 : decide (0 < x7_2) = false := decide_eq_false c9
              clear c9
              simp only [Option.some.injEq, Prod.mk.injEq] at H
              obtain ⟨rfl, rfl⟩ := H
              obtain ⟨Ao29, co29, eo29⟩ := Kd.R_slice HO_5.out
              subst eo29
              have hcz30_0 : wr.cell? ⟨gb432, 0, none⟩ = some (.int .u64 0) := (blk_cell BK432.out 0).trans rfl
              have hcz30_1 : wr.cell? ⟨gb432, 1, none⟩ = some (.slice none 0 0) := (blk_cell BK432.out 1).trans rfl
              have hfz30_0 := blk_frozen BK432.out 0
              have hfz30_1 := blk_frozen BK432.out 1
              go_wp2
              refine bodyPost_ret (results_cell_row rfl _ _ gb432 45 #[.int .u64 x0_2, .slice Ao29 x5_2.length co29] (0, 0) _ rfl (by (with_reducible repeat (first | refine blk_drewN ?_ _ | refine blk_drew ?_ | refine blk_alloc ?_ _)); refine blk_put (cs := #[.int .u64 x0_2, .slice none 0 0]) ?_ 1 _ rfl; (with_reducible repeat (first | refine blk_drewN ?_ _ | refine blk_drew ?_ | refine blk_alloc ?_ _)); refine blk_put (cs := #[.int .u64 0, .slice none 0 0]) ?_ 0 _ rfl; (with_reducible repeat (first | refine blk_drewN ?_ _ | refine blk_drew ?_ | refine blk_alloc ?_ _)); exact BK432.out) Try.underlying45 rfl (by kernel_rfl)) rfl ?_
              exact ⟨_, by first | rfl | (simp [errW_none, errW_some] <;> rfl) | (simp [*, errW_none, errW_some] <;> rfl), by (with_reducible repeat (first | apply Kd.R_alloc | apply Kd.R_drewN | apply Kd.R_drew)); exact Kd.R_mono (Kd.R_far (p := ⟨gb432, 1, none⟩) (Kd.R_far (p := ⟨gb432, 0, none⟩) (Kd.R_types HO_5.out BK432.out (by decide)) (fun _ hk => hk.2) (.int .u64 x0_2)) (fun _ hk => hk.2) (.slice Ao29 x5_2.length co29)) (fun _ hk => trivial), by repeat (first | (with_reducible first | exact HB.out | apply below_alloc | apply pw_below_drewN | apply below_drew1 | refine below_set ?_ GE432.out) | exact HB.out)⟩

/-! ### downpourref01_Numbers: function 27 -/
/-! ### downpourref06_in: function 86 -/
def downpourref06_in.l0 : Nat → Int → List Int → Int → Int → Option (Bool)
  | 0, _, _, _, _ => none
  | k + 1, x2, x11, x12, x13 => if x13 < x12 then (if 0 ≤ x13 then (if x13 < (x11.length : Int) then (if (rd x11 x13) = x2 then (some true) else (downpourref06_in.l0 k x2 x11 x12 (wrap64 (x13 + 1)))) else (none)) else (none)) else (some false)
def downpourref06_in.f (k : Nat) (l0 : List Int) (a1 : Int) (a2 : Int) : Option (Bool) := if 0 ≤ a1 then (if a1 ≤ (l0.length : Int) then (downpourref06_in.l0 k a2 (l0.take (a1 : Int).toNat) ((l0.take (a1 : Int).toNat).length : Int) 0) else (none)) else (none)
set_option maxHeartbeats 8000000 in
set_option maxRecDepth 100000 in
theorem downpourref06_in.calls (k : Nat) (A0 : Option Addr) (c0 : Nat) (l0 : List Int) (a1 : Int) (a2 : Int) (r : Bool) (w : World) (hr0 : Kd.C (Kd.int .i64) w A0 l0.length l0) (hc0 : l0.length ≤ c0) (h : downpourref06_in.f k l0 a1 a2 = some r) :
    Calls Try.prog 86 #[.slice A0 l0.length c0, .int .i64 a1, .int .i64 a2] w fun e w' => e = .returned (.bool r) ∧ Drawn0 w w' := by
  have HR0 := Aside0.mk hr0
  have HC0 := Aside0.mk hc0
  clear hr0 hc0
  have H : (if 0 ≤ a1 then (if a1 ≤ (l0.length : Int) then (downpourref06_in.l0 k a2 (l0.take (a1 : Int).toNat) ((l0.take (a1 : Int).toNat).length : Int) 0) else (none)) else (none)) = some r := h
  clear h
  by_cases c4 : 0 ≤ a1
  · rw [if_pos c4] at H
    have c4b0 := eq_true c4
    have c4b1 : decide (0 ≤ a1) = true := decide_eq_true c4
    have zk4_ := Aside0.mk c4
    clear c4
    by_cases c5 : a1 ≤ (l0.length : Int)
    · rw [if_pos c5] at H
      have c5b0 := eq_true c5
      have c5b1 : decide (a1 ≤ (l0.length : Int)) = true := decide_eq_true c5
      have zk5_ := Aside0.mk c5
      clear c5
      have H' := Aside0.mk H
      clear H
      obtain ⟨i06, hi06, _, hsz6, _⟩ := info_parts info3
      obtain ⟨hcut6, hA6, hC6⟩ := print_take_of (P := Try.prog) (Value.int .i64) 0 40 3 .i64 Try.underlying40 hi06 hsz6 A0 c0 l0 a1 (of_decide_eq_true (by first | (with_reducible assumption) | assumption)) (of_decide_eq_true (by first | (with_reducible assumption) | assumption)) HC0.out
      have HR448 := Aside0.mk (Kd.C_of_reads (h1 := fun _ => rfl) (hA6 _ (Kd.reads_of_C HR0.out)))
      have HC448 := Aside0.mk hC6
      clear hA6 hC6 hi06 hsz6
      go_enter Try.func86, Try.ntmps86
      go_wp2
      go_loopg [13] k (fun kq v13 w' => ∃ (x13_1 : Int), v13 = .int .i64 x13_1 ∧ Aside0 (downpourref06_in.l0 kq a2 (l0.take (a1 : Int).toNat) ((l0.take (a1 : Int).toNat).length : Int) x13_1 = some r) ∧ Aside0 (kq ≤ k) ∧ Drawn0 w w')
      case atStart => exact ⟨(0), (by first | rfl | (simp; done) | (simp [*]; done)), H', ⟨Nat.le_refl _⟩, by repeat (first | exact Drawn0.refl _ | apply Drawn0.step)⟩
      case round =>
        clear H'
        try clear p2
        try clear c4
        try clear c4b0
        try clear c4b1
        try clear c5
        try clear c5b0
        try clear c5b1
        obtain ⟨x13_1, rfl, HA, HK1, ⟨m1, rfl⟩⟩ := hrel
        cases gk with
        | zero => exact absurd HA.out (by simp [downpourref06_in.l0])
        | succ k1 =>
          have H := HA.out
          clear HA
          simp only [downpourref06_in.l0] at H
          by_cases c7 : x13_1 < ((l0.take (a1 : Int).toNat).length : Int)
          · rw [if_pos c7] at H
            have c7b0 : decide (x13_1 < ((l0.take (a1 : Int).toNat).length : Int)) = true := decide_eq_true c7
            clear c7
            by_cases c8 : 0 ≤ x13_1
            · rw [if_pos c8] at H
              have c8b0 : decide (0 ≤ x13_1) = true := decide_eq_true c8
              clear c8
              by_cases c9 : x13_1 < ((l0.take (a1 : Int).toNat).length : Int)
              · rw [if_pos c9] at H
                have c9b0 : decide (x13_1 < ((l0.take (a1 : Int).toNat).length : Int)) = true := decide_eq_true c9
                clear c9
                by_cases c10 : (rd (l0.take (a1 : Int).toNat) x13_1) = a2
                · rw [if_pos c10] at H
                  have c10b0 : ((rd (l0.take (a1 : Int).toNat) x13_1) == a2) = true := beq_iff_eq.mpr c10
                  have c10b1 : ((rd (l0.take (a1 : Int).toNat) x13_1) != a2) = false := bne_eq_false_iff_eq.mpr c10
                  clear c10
                  obtain rfl := Option.some.inj H
                  have p449 : 0 ≤ (x13_1 : Int) := of_decide_eq_true (by first | (with_reducible assumption) | assumption)
                  have q449 : x13_1 < ((l0.take (a1 : Int).toNat).length : Int) := of_decide_eq_true (by first | (with_reducible assumption) | assumption)
                  obtain ⟨ad449, e449, hx449_0⟩ := Kd.at_int HR448.out x13_1 p449 q449
                  cases e449
                  replace p449 := eq_true p449
                  have zmx_ : decide (x13_1 < max a1 0) = true := by have h_ := of_decide_eq_true c7b0; rw [List.length_take] at h_; simp; omega
                  have zmy_ : x13_1 < max a1 0 := of_decide_eq_true zmx_
                  replace q449 := eq_true q449
                  go_wp2
                  go_ret
                  exact ⟨by first | rfl | (simp; done) | (simp [*]; done), by repeat (first | exact Drawn0.refl _ | apply Drawn0.step)⟩
                · rw [if_neg c10] at H
                  have c10b0 : ((rd (l0.take (a1 : Int).toNat) x13_1) == a2) = false := beq_eq_false_iff_ne.mpr c10
                  have c10b1 : ((rd (l0.take (a1 : Int).toNat) x13_1) != a2) = true := bne_iff_ne.mpr c10
                  have H' := Aside0.mk H
                  clear H
                  have p449 : 0 ≤ (x13_1 : Int) := of_decide_eq_true (by first | (with_reducible assumption) | assumption)
                  have q449 : x13_1 < ((l0.take (a1 : Int).toNat).length : Int) := of_decide_eq_true (by first | (with_reducible assumption) | assumption)
                  obtain ⟨ad449, e449, hx449_0⟩ := Kd.at_int HR448.out x13_1 p449 q449
                  cases e449
                  replace p449 := eq_true p449
                  have zmx_ : decide (x13_1 < max a1 0) = true := by have h_ := of_decide_eq_true c7b0; rw [List.length_take] at h_; simp; omega
                  have zmy_ : x13_1 < max a1 0 := of_decide_eq_true zmx_
                  replace q449 := eq_true q449
                  go_wp2
                  go_roundg k1
                  case measure => have := HK1.out; omega
                  case rel => exact ⟨(wrap64 (x13_1 + 1)), (by first | rfl | (simp; done) | (simp [*]; done)), H', ⟨by have := HK1.out; omega⟩, by repeat (first | exact Drawn0.refl _ | apply Drawn0.step)⟩
              · rw [if_neg c9] at H
                exact absurd H (by simp)
            · rw [if_neg c8] at H
              exact absurd H (by simp)
          · rw [if_neg c7] at H
            have c7b0 : decide (x13_1 < ((l0.take (a1 : Int).toNat).length : Int)) = false := decide_eq_false c7
            have zmf_ : decide (x13_1 < max a1 0) = false := by have h4_ := zk4_.out; have h5_ := zk5_.out; rw [List.length_take] at c7; simp; omega
            have zmg_ : ¬ x13_1 < max a1 0 := of_decide_eq_false zmf_
            clear c7
            obtain rfl := Option.some.inj H
            go_wp2
            go_ret
            exact ⟨by first | rfl | (simp; done) | (simp [*]; done), by repeat (first | exact Drawn0.refl _ | apply Drawn0.step)⟩
    · rw [if_neg c5] at H
      exact absurd H (by simp)
  · rw [if_neg c4] at H
    exact absurd H (by simp)

/-! ### downpourref06_Some: function 28 -/
def downpourref06_Some.l0 : Nat → Int → Int → Int → Int → List Int → Int → List Int → Option (Int × List Int)
  | 0, _, _, _, _, _, _, _ => none
  | k + 1, x1, x2, x9, x456000, x456001, x457000, x457001 => if x9 < x1 then ((downpourref06_in.f k x456001 x2 x9).bind fun t457 => (if t457 = true then (if x457001.length < 17592186044416 then (downpourref06_Some.l0 k x1 x2 (wrap64 (x9 + 1)) x456000 x456001 x457000 (x457001 ++ [x9])) else (none)) else (downpourref06_Some.l0 k x1 x2 (wrap64 (x9 + 1)) x456000 x456001 x457000 x457001))) else (some (x457000, x457001))
def downpourref06_Some.f (k : Nat) (a0 : Int) (a1 : Int) (a2 : Int) : Option (Int × List Int) := (downpourref06_Shuffle.f k a0 a1).bind fun bt451 => (downpourref06_Some.l0 k a1 a2 0 bt451.1 bt451.2 bt451.1 ([] : List Int))
set_option maxHeartbeats 8000000 in
set_option maxRecDepth 100000 in
theorem downpourref06_Some.calls (k : Nat) (a0 : Int) (a1 : Int) (a2 : Int) (r1 : Int) (r2 : List Int) (w : World) (h : downpourref06_Some.f k a0 a1 a2 = some (r1, r2)) :
    Calls Try.prog 28 #[.int .u64 a0, .int .i64 a1, .int .i64 a2] w fun e w' => ∃ v1_ : Value, e = .returned (.agg #[.int .u64 r1, v1_]) ∧ Kd.R (Kd.int .i64) 3 w' w.heap.size (fun _ => True) v1_ r2 ∧ Below w.heap.size w w' := by
  have hu45 := Try.underlying45
  have HB := Aside0.mk (Below.refl w.heap.size w)
  have H : ((downpourref06_Shuffle.f k a0 a1).bind fun bt451 => (downpourref06_Some.l0 k a1 a2 0 bt451.1 bt451.2 bt451.1 ([] : List Int))) = some (r1, r2) := h
  clear h
  replace H := Option.bind_eq_some_iff.mp H
  obtain ⟨⟨t451, t452⟩, A40, H⟩ := H
  replace H : (downpourref06_Some.l0 k a1 a2 0 t451 t452 t451 ([] : List Int)) = some (r1, r2) := H
  have A4 := Aside0.mk A40
  clear A40
  have H' := Aside0.mk H
  clear H
  go_enter Try.func28, Try.ntmps28
  go_wp2_with (first | ((with_reducible refine gate_dst (N := 6) rfl ?_); refine box_event ?hg (N := 6) ?hd (cs := #[.int .u64 0, .slice none 0 0]) (t := 45) ?hr ?_; (case hd => rfl); (case hg => rfl); (case hr => first | (go_simp; done) | (go_simp; rfl)); intro gb450 hg w5 hbox hb; have n0_ := Aside0.mk (below_step (by repeat (first | (with_reducible first | exact HB.out | apply below_alloc | apply pw_below_drewN | apply below_drew1) | exact HB.out)) hb); have n1_ := Aside0.mk (hbox); have n2_ := Aside0.mk ((by rw [hg]; exact (below_size (by repeat (first | (with_reducible first | exact HB.out | apply below_alloc | apply pw_below_drewN | apply below_drew1) | exact HB.out))) : w.heap.size ≤ gb450)); have n3_ := Aside0.mk ((by rw [hg]; exact (below_size (by repeat (first | (with_reducible first | exact HB.out | apply below_alloc | apply pw_below_drewN | apply below_drew1) | exact HB.out))) : w.heap.size ≤ gb450)); clear HB; have HB := n0_; have BK450 := n1_; have GW450 := n2_; have GE450 := n3_; clear n0_ n1_ n2_ n3_; clear hb hbox hg) | ((with_reducible refine gate_callee (f := 26) rfl ?_); refine goesL_ (some 12) rfl rfl Try.func26 (by kernel_rfl) rfl #[.int .u64 a0, .int .i64 a1] rfl (by (try simp only [List.map_toArray, List.map_cons, List.map_nil]); first | done | rfl | (simp only [List.length_drop, List.length_take]; rfl)) ?_; (with_reducible refine (downpourref06_Shuffle.calls k a0 a1 t451 t452 _ A4.out).mono ?_); rintro e w6 ⟨v453, rfl, ho0, hb⟩; refine ⟨_, rfl, ?_⟩; have n0_ := Aside0.mk (Kd.R_lower ho0 (below_size (by repeat (first | (with_reducible first | exact HB.out | apply below_alloc | apply pw_below_drewN | apply below_drew1 | refine below_set ?_ GE450.out) | exact HB.out)))); have n1_ := Aside0.mk (blk_below (g := gb450) (o := .cells #[.int .u64 0, .slice none 0 0] 45 (0, 0)) (by (with_reducible repeat (first | refine blk_drewN ?_ _ | refine blk_drew ?_ | refine blk_alloc ?_ _)); exact BK450.out) hb); have n2_ := Aside0.mk (below_step (by repeat (first | (with_reducible first | exact HB.out | apply below_alloc | apply pw_below_drewN | apply below_drew1 | refine below_set ?_ GE450.out) | exact HB.out)) hb); clear BK450; clear HB; have HO454 := n0_; have BK450 := n1_; have HB := n2_; clear n0_ n1_ n2_; (try clear hb); (try clear hb2); (try clear hk); (try clear hi); (try clear ho0)) | ((with_reducible refine gate_dst (N := 7) rfl ?_); refine box_event ?hg (N := 7) ?hd (cs := #[.int .u64 0, .slice none 0 0]) (t := 45) ?hr ?_; (case hd => rfl); (case hg => rfl); (case hr => first | (go_simp; done) | (go_simp; rfl)); intro gb455 hg w7 hbox hb; have n0_ := Aside0.mk (Kd.R_below (by (with_reducible repeat (first | apply Kd.R_alloc | apply Kd.R_drewN | apply Kd.R_drew)); exact HO454.out) hb); have n1_ := Aside0.mk (blk_below (g := gb450) (o := .cells #[.int .u64 0, .slice none 0 0] 45 (0, 0)) (by (with_reducible repeat (first | refine blk_drewN ?_ _ | refine blk_drew ?_ | refine blk_alloc ?_ _)); exact BK450.out) hb); have n2_ := Aside0.mk (below_step (by repeat (first | (with_reducible first | exact HB.out | apply below_alloc | apply pw_below_drewN | apply below_drew1 | refine below_set ?_ GE450.out) | exact HB.out)) hb); have n3_ := Aside0.mk (hbox); have n4_ := Aside0.mk ((by rw [hg]; exact (below_size (by repeat (first | (with_reducible first | exact HB.out | apply below_alloc | apply pw_below_drewN | apply below_drew1 | refine below_set ?_ GE450.out) | exact HB.out))) : w.heap.size ≤ gb455)); have n5_ := Aside0.mk ((by rw [hg]; exact (below_size (by repeat (first | (with_reducible first | exact HB.out | apply below_alloc | apply pw_below_drewN | apply below_drew1 | refine below_set ?_ GE450.out) | exact HB.out))) : w.heap.size ≤ gb455)); have n6_ := Aside0.mk ((by rw [hg]; exact Nat.ne_of_lt (blk_lt (g := gb450) (o := .cells #[.int .u64 0, .slice none 0 0] 45 (0, 0)) (by (with_reducible repeat (first | refine blk_drewN ?_ _ | refine blk_drew ?_ | refine blk_alloc ?_ _)); exact BK450.out)) : gb450 ≠ gb455)); have n7_ := Aside0.mk ((by rw [hg]; exact Nat.ne_of_gt (blk_lt (g := gb450) (o := .cells #[.int .u64 0, .slice none 0 0] 45 (0, 0)) (by (with_reducible repeat (first | refine blk_drewN ?_ _ | refine blk_drew ?_ | refine blk_alloc ?_ _)); exact BK450.out)) : gb455 ≠ gb450)); clear HO454; clear BK450; clear HB; have HO454 := n0_; have BK450 := n1_; have HB := n2_; have BK455 := n3_; have GW455 := n4_; have GE455 := n5_; have NB450_455 := n6_; have NB455_450 := n7_; clear n0_ n1_ n2_ n3_ n4_ n5_ n6_ n7_; clear hb hbox hg; have hnb8 := NB455_450.out; have hnc8 := NB450_455.out; have hcz9_0 : w7.cell? ⟨gb455, 0, none⟩ = some (.int .u64 0) := (blk_cell BK455.out 0).trans rfl; have hcz9_1 : w7.cell? ⟨gb455, 1, none⟩ = some (.slice none 0 0) := (blk_cell BK455.out 1).trans rfl; have hfz9_0 := blk_frozen BK455.out 0; have hfz9_1 := blk_frozen BK455.out 1; obtain ⟨Ao10, co10, eo10⟩ := Kd.R_slice HO454.out; subst eo10) | ((with_reducible refine gate_dst (N := 8) rfl ?_); refine box_event ?hg (N := 8) ?hd (cs := #[.int .u64 0, .slice none 0 0]) (t := 45) ?hr ?_; (case hd => rfl); (case hg => rfl); (case hr => first | (go_simp; done) | (go_simp; rfl)); intro gb456 hg w11 hbox hb; have n0_ := Aside0.mk (Kd.R_below (by (with_reducible repeat (first | apply Kd.R_alloc | apply Kd.R_drewN | apply Kd.R_drew)); exact (Kd.R_mono (Kd.R_far (p := ⟨gb455, 1, none⟩) (Kd.R_far (p := ⟨gb455, 0, none⟩) (Kd.R_types HO454.out BK455.out (by decide)) (fun _ hk => hk.2) (.int .u64 t451)) (fun _ hk => hk.2) (.slice Ao10 t452.length co10)) (fun _ h_ => h_.1))) hb); have n1_ := Aside0.mk (blk_below (g := gb450) (o := .cells #[.int .u64 0, .slice none 0 0] 45 (0, 0)) (by (with_reducible repeat (first | refine blk_drewN ?_ _ | refine blk_drew ?_ | refine blk_alloc ?_ _)); refine blk_far ?_ NB450_455.out _; (with_reducible repeat (first | refine blk_drewN ?_ _ | refine blk_drew ?_ | refine blk_alloc ?_ _)); refine blk_far ?_ NB450_455.out _; (with_reducible repeat (first | refine blk_drewN ?_ _ | refine blk_drew ?_ | refine blk_alloc ?_ _)); exact BK450.out) hb); have n2_ := Aside0.mk (blk_below (g := gb455) (o := .cells #[.int .u64 t451, .slice Ao10 t452.length co10] 45 (0, 0)) (by (with_reducible repeat (first | refine blk_drewN ?_ _ | refine blk_drew ?_ | refine blk_alloc ?_ _)); refine blk_put (cs := #[.int .u64 t451, .slice none 0 0]) ?_ 1 _ rfl; (with_reducible repeat (first | refine blk_drewN ?_ _ | refine blk_drew ?_ | refine blk_alloc ?_ _)); refine blk_put (cs := #[.int .u64 0, .slice none 0 0]) ?_ 0 _ rfl; (with_reducible repeat (first | refine blk_drewN ?_ _ | refine blk_drew ?_ | refine blk_alloc ?_ _)); exact BK455.out) hb); have n3_ := Aside0.mk (below_step (by repeat (first | (with_reducible first | exact HB.out | apply below_alloc | apply pw_below_drewN | apply below_drew1 | refine below_set ?_ GE450.out | refine below_set ?_ GE455.out) | exact HB.out)) hb); have n4_ := Aside0.mk (hbox); have n5_ := Aside0.mk ((by rw [hg]; exact (below_size (by repeat (first | (with_reducible first | exact HB.out | apply below_alloc | apply pw_below_drewN | apply below_drew1 | refine below_set ?_ GE450.out | refine below_set ?_ GE455.out) | exact HB.out))) : w.heap.size ≤ gb456)); have n6_ := Aside0.mk ((by rw [hg]; exact (below_size (by repeat (first | (with_reducible first | exact HB.out | apply below_alloc | apply pw_below_drewN | apply below_drew1 | refine below_set ?_ GE450.out | refine below_set ?_ GE455.out) | exact HB.out))) : w.heap.size ≤ gb456)); have n7_ := Aside0.mk ((by rw [hg]; exact Nat.ne_of_lt (blk_lt (g := gb450) (o := .cells #[.int .u64 0, .slice none 0 0] 45 (0, 0)) (by (with_reducible repeat (first | refine blk_drewN ?_ _ | refine blk_drew ?_ | refine blk_alloc ?_ _)); refine blk_far ?_ NB450_455.out _; (with_reducible repeat (first | refine blk_drewN ?_ _ | refine blk_drew ?_ | refine blk_alloc ?_ _)); refine blk_far ?_ NB450_455.out _; (with_reducible repeat (first | refine blk_drewN ?_ _ | refine blk_drew ?_ | refine blk_alloc ?_ _)); exact BK450.out)) : gb450 ≠ gb456)); have n8_ := Aside0.mk ((by rw [hg]; exact Nat.ne_of_gt (blk_lt (g := gb450) (o := .cells #[.int .u64 0, .slice none 0 0] 45 (0, 0)) (by (with_reducible repeat (first | refine blk_drewN ?_ _ | refine blk_drew ?_ | refine blk_alloc ?_ _)); refine blk_far ?_ NB450_455.out _; (with_reducible repeat (first | refine blk_drewN ?_ _ | refine blk_drew ?_ | refine blk_alloc ?_ _)); refine blk_far ?_ NB450_455.out _; (with_reducible repeat (first | refine blk_drewN ?_ _ | refine blk_drew ?_ | refine blk_alloc ?_ _)); exact BK450.out)) : gb456 ≠ gb450)); have n9_ := Aside0.mk ((by rw [hg]; exact Nat.ne_of_lt (blk_lt (g := gb455) (o := .cells #[.int .u64 t451, .slice Ao10 t452.length co10] 45 (0, 0)) (by (with_reducible repeat (first | refine blk_drewN ?_ _ | refine blk_drew ?_ | refine blk_alloc ?_ _)); refine blk_put (cs := #[.int .u64 t451, .slice none 0 0]) ?_ 1 _ rfl; (with_reducible repeat (first | refine blk_drewN ?_ _ | refine blk_drew ?_ | refine blk_alloc ?_ _)); refine blk_put (cs := #[.int .u64 0, .slice none 0 0]) ?_ 0 _ rfl; (with_reducible repeat (first | refine blk_drewN ?_ _ | refine blk_drew ?_ | refine blk_alloc ?_ _)); exact BK455.out)) : gb455 ≠ gb456)); have n10_ := Aside0.mk ((by rw [hg]; exact Nat.ne_of_gt (blk_lt (g := gb455) (o := .cells #[.int .u64 t451, .slice Ao10 t452.length co10] 45 (0, 0)) (by (with_reducible repeat (first | refine blk_drewN ?_ _ | refine blk_drew ?_ | refine blk_alloc ?_ _)); refine blk_put (cs := #[.int .u64 t451, .slice none 0 0]) ?_ 1 _ rfl; (with_reducible repeat (first | refine blk_drewN ?_ _ | refine blk_drew ?_ | refine blk_alloc ?_ _)); refine blk_put (cs := #[.int .u64 0, .slice none 0 0]) ?_ 0 _ rfl; (with_reducible repeat (first | refine blk_drewN ?_ _ | refine blk_drew ?_ | refine blk_alloc ?_ _)); exact BK455.out)) : gb456 ≠ gb455)); clear HO454; clear BK450; clear BK455; clear HB; have HO454 := n0_; have BK450 := n1_; have BK455 := n2_; have HB := n3_; have BK456 := n4_; have GW456 := n5_; have GE456 := n6_; have NB450_456 := n7_; have NB456_450 := n8_; have NB455_456 := n9_; have NB456_455 := n10_; clear n0_ n1_ n2_ n3_ n4_ n5_ n6_ n7_ n8_ n9_ n10_; clear hb hbox hg; have hnb12 := NB456_450.out; have hnc12 := NB450_456.out; have hnb13 := NB456_455.out; have hnc13 := NB455_456.out; have hcz14_0 : w11.cell? ⟨gb456, 0, none⟩ = some (.int .u64 0) := (blk_cell BK456.out 0).trans rfl; have hcz14_1 : w11.cell? ⟨gb456, 1, none⟩ = some (.slice none 0 0) := (blk_cell BK456.out 1).trans rfl; have hfz14_0 := blk_frozen BK456.out 0; have hfz14_1 := blk_frozen BK456.out 1))
  go_loopg [9] k (fun kq v9 w' => ∃ (x9_1 : Int) (x457001_1 : List Int) (u457001 : Value), v9 = .int .i64 x9_1 ∧ Aside0 (downpourref06_Some.l0 kq a1 a2 x9_1 t451 t452 t451 x457001_1 = some (r1, r2)) ∧ Aside0 (kq ≤ k) ∧ Aside0 (Kd.R (Kd.int .i64) 3 w' w.heap.size (fun k_ => some k_ ≠ (u457001 : Value).ownBlock) (.slice Ao10 t452.length co10) t452) ∧ Aside0 (Kd.R (Kd.int .i64) 3 w' w.heap.size (fun k_ => some k_ ≠ ((.slice Ao10 t452.length co10) : Value).ownBlock) u457001 x457001_1) ∧ Aside0 (w'.heap[gb450]? = some (.cells #[.int .u64 0, (.slice none 0 0)] 45 (0, 0))) ∧ Aside0 (w'.heap[gb455]? = some (.cells #[.int .u64 t451, (.slice Ao10 t452.length co10)] 45 (0, 0))) ∧ Aside0 (w'.heap[gb456]? = some (.cells #[.int .u64 t451, u457001] 45 (0, 0))) ∧ Aside0 (Below w.heap.size w w'))
  case atStart => exact ⟨(0), (([] : List Int)), (.slice none 0 0), (by first | rfl | (simp; done) | (simp [*]; done)), H', ⟨Nat.le_refl _⟩, ⟨by (with_reducible repeat (first | apply Kd.R_alloc | apply Kd.R_drewN | apply Kd.R_drew)); exact Kd.R_mono (Kd.R_far (p := ⟨gb456, 1, none⟩) (Kd.R_far (p := ⟨gb456, 0, none⟩) (Kd.R_types HO454.out BK456.out (by decide)) (fun _ hk => hk.2) (.int .u64 t451)) (fun _ hk => hk.2) (.slice none 0 0)) (fun _ hk => (by simp [Value.ownBlock]))⟩, ⟨by first | exact Kd.R_nil _ _ _ _ _ | exact Kd.N_nil _ _ _ _ _ | exact Kd.V_nil _ _ _ _ _ | exact Kd.Q_nil _ _ _ _ _ | exact Kd.S_nil _ _ _ _ _⟩, ⟨by (with_reducible repeat (first | refine blk_drewN ?_ _ | refine blk_drew ?_ | refine blk_alloc ?_ _)); refine blk_far ?_ NB450_456.out _; (with_reducible repeat (first | refine blk_drewN ?_ _ | refine blk_drew ?_ | refine blk_alloc ?_ _)); refine blk_far ?_ NB450_456.out _; (with_reducible repeat (first | refine blk_drewN ?_ _ | refine blk_drew ?_ | refine blk_alloc ?_ _)); exact BK450.out⟩, ⟨by (with_reducible repeat (first | refine blk_drewN ?_ _ | refine blk_drew ?_ | refine blk_alloc ?_ _)); refine blk_far ?_ NB455_456.out _; (with_reducible repeat (first | refine blk_drewN ?_ _ | refine blk_drew ?_ | refine blk_alloc ?_ _)); refine blk_far ?_ NB455_456.out _; (with_reducible repeat (first | refine blk_drewN ?_ _ | refine blk_drew ?_ | refine blk_alloc ?_ _)); exact BK455.out⟩, ⟨by (with_reducible repeat (first | refine blk_drewN ?_ _ | refine blk_drew ?_ | refine blk_alloc ?_ _)); refine blk_put (cs := #[.int .u64 t451, .slice none 0 0]) ?_ 1 _ rfl; (with_reducible repeat (first | refine blk_drewN ?_ _ | refine blk_drew ?_ | refine blk_alloc ?_ _)); refine blk_put (cs := #[.int .u64 0, .slice none 0 0]) ?_ 0 _ rfl; (with_reducible repeat (first | refine blk_drewN ?_ _ | refine blk_drew ?_ | refine blk_alloc ?_ _)); exact BK456.out⟩, ⟨by repeat (first | (with_reducible first | exact HB.out | apply below_alloc | apply pw_below_drewN | apply below_drew1 | refine below_set ?_ GE450.out | refine below_set ?_ GE455.out | refine below_set ?_ GE456.out) | exact HB.out)⟩⟩
  case round =>
    clear H'
    try clear c1
    try clear c2
    try clear p2
    try clear c8
    try clear c12
    try clear c13
    try clear hcz14_0
    try clear hcz14_1
    try clear hcz9_0
    try clear hcz9_1
    try clear hfz14_0
    try clear hfz14_1
    try clear hfz9_0
    try clear hfz9_1
    obtain ⟨x9_1, x457001_1, u457001, rfl, HA, HK1, HO_456001, HO_457001, BK450, BK455, BK456, HB⟩ := hrel
    cases gk with
    | zero => exact absurd HA.out (by simp [downpourref06_Some.l0])
    | succ k1 =>
      have H := HA.out
      clear HA
      simp only [downpourref06_Some.l0] at H
      by_cases c15 : x9_1 < a1
      · rw [if_pos c15] at H
        have c15b0 : decide (x9_1 < a1) = true := decide_eq_true c15
        clear c15
        replace H := Option.bind_eq_some_iff.mp H
        obtain ⟨t457, A160, H⟩ := H
        replace H : (if t457 = true then (if x457001_1.length < 17592186044416 then (downpourref06_Some.l0 k1 a1 a2 (wrap64 (x9_1 + 1)) t451 t452 t451 (x457001_1 ++ [x9_1])) else (none)) else (downpourref06_Some.l0 k1 a1 a2 (wrap64 (x9_1 + 1)) t451 t452 t451 x457001_1)) = some (r1, r2) := H
        have A16 := Aside0.mk A160
        clear A160
        by_cases c17 : t457 = true
        · subst c17
          have H1 : (if x457001_1.length < 17592186044416 then (downpourref06_Some.l0 k1 a1 a2 (wrap64 (x9_1 + 1)) t451 t452 t451 (x457001_1 ++ [x9_1])) else (none)) = some (r1, r2) := by rw [if_pos rfl] at H; exact H
          clear H
          have H := H1
          clear H1
          by_cases c18 : x457001_1.length < 17592186044416
          · rw [if_pos c18] at H
            have LMc18 := Aside0.mk c18
            clear c18
            obtain ⟨y458, hy458⟩ : ∃ y_ : List Int, y_ = (x457001_1 ++ [x9_1]) := ⟨_, rfl⟩
            replace H : (downpourref06_Some.l0 k1 a1 a2 (wrap64 (x9_1 + 1)) t451 t452 t451 y458) = some (r1, r2) := by first | (rw [hy458]; with_reducible exact H) | (have H2_ := (Option.bind_some _ _).symm.trans H; rw [hy458]; with_reducible exact H2_) | (have H2_ := (Option.bind_some _ _).symm.trans H; with_reducible exact H2_) | with_reducible exact H | (rw [hy458]; exact H) | exact H
            have Ny458 := Aside0.mk hy458
            clear hy458
            have H' := Aside0.mk H
            clear H
            have hnb19 := NB455_450.out
            have hnc19 := NB450_455.out
            have hnb20 := NB455_456.out
            have hnc20 := NB456_455.out
            have hcz21_0 : wr.cell? ⟨gb455, 0, none⟩ = some (.int .u64 t451) := (blk_cell BK455.out 0).trans rfl
            have hcz21_1 : wr.cell? ⟨gb455, 1, none⟩ = some (.slice Ao10 t452.length co10) := (blk_cell BK455.out 1).trans rfl
            have hfz21_0 := blk_frozen BK455.out 0
            have hfz21_1 := blk_frozen BK455.out 1
            go_wp2_with (first | ((with_reducible refine gate_callee (f := 86) rfl ?_); refine goesL_ (some 25) rfl rfl Try.func86 (by kernel_rfl) rfl #[.slice Ao10 t452.length co10, .int .i64 a2, .int .i64 x9_1] rfl (by (try simp only [List.map_toArray, List.map_cons, List.map_nil]); first | done | rfl | (simp only [List.length_drop, List.length_take]; rfl)) ?_; (with_reducible refine (downpourref06_in.calls k1 _ _ t452 a2 x9_1 true _ ?side1 ?side2 A16.out).mono ?_); (case side1 => repeat (first | exact (Kd.R_reads' HO_456001.out).2.2 | (with_reducible refine Kd.C_alloc ?_ _) | (with_reducible refine Kd.C_drewN ?_ _) | (with_reducible refine Kd.C_drew ?_))); (case side2 => exact (Kd.R_reads' HO_456001.out).2.1); rintro e w' ⟨rfl, ⟨nd, rfl⟩⟩; refine ⟨_, rfl, ?_⟩; (try (rw [drewN_self wr]; generalize hq_ : World.drewN wr _ = wr; have n0_ : Aside0 (Kd.R (Kd.int .i64) 3 wr w.heap.size (fun k_ => some k_ ≠ (u457001 : Value).ownBlock) (.slice Ao10 t452.length co10) t452) := ⟨by rw [← hq_]; exact (by (with_reducible repeat (first | apply Kd.R_alloc | apply Kd.R_drewN | apply Kd.R_drew)); exact HO_456001.out)⟩; have n1_ : Aside0 (Kd.R (Kd.int .i64) 3 wr w.heap.size (fun k_ => some k_ ≠ (.slice Ao10 t452.length co10 : Value).ownBlock) u457001 x457001_1) := ⟨by rw [← hq_]; exact (by (with_reducible repeat (first | apply Kd.R_alloc | apply Kd.R_drewN | apply Kd.R_drew)); exact HO_457001.out)⟩; have n2_ : Aside0 (wr.heap[gb450]? = some (.cells #[.int .u64 0, .slice none 0 0] 45 (0, 0))) := ⟨by rw [← hq_]; exact (by (with_reducible repeat (first | refine blk_drewN ?_ _ | refine blk_drew ?_ | refine blk_alloc ?_ _)); exact BK450.out)⟩; have n3_ : Aside0 (wr.heap[gb455]? = some (.cells #[.int .u64 t451, .slice Ao10 t452.length co10] 45 (0, 0))) := ⟨by rw [← hq_]; exact (by (with_reducible repeat (first | refine blk_drewN ?_ _ | refine blk_drew ?_ | refine blk_alloc ?_ _)); exact BK455.out)⟩; have n4_ : Aside0 (wr.heap[gb456]? = some (.cells #[.int .u64 t451, u457001] 45 (0, 0))) := ⟨by rw [← hq_]; exact (by (with_reducible repeat (first | refine blk_drewN ?_ _ | refine blk_drew ?_ | refine blk_alloc ?_ _)); exact BK456.out)⟩; have n5_ : Aside0 (Below w.heap.size w wr) := ⟨by rw [← hq_]; exact (by repeat (first | (with_reducible first | exact HB.out | apply below_alloc | apply pw_below_drewN | apply below_drew1 | refine below_set ?_ GE450.out | refine below_set ?_ GE455.out | refine below_set ?_ GE456.out) | exact HB.out))⟩; clear HO_456001 HO_457001 BK450 BK455 BK456 HB hq_; have HO_456001 := n0_; have HO_457001 := n1_; have BK450 := n2_; have BK455 := n3_; have BK456 := n4_; have HB := n5_; clear n0_ n1_ n2_ n3_ n4_ n5_)); have hnb22 := NB456_450.out; have hnc22 := NB450_456.out; have hcz23_0 : wr.cell? ⟨gb456, 0, none⟩ = some (.int .u64 t451) := (blk_cell BK456.out 0).trans rfl; have hcz23_1 : wr.cell? ⟨gb456, 1, none⟩ = some (u457001) := (blk_cell BK456.out 1).trans rfl; have hfz23_0 := blk_frozen BK456.out 0; have hfz23_1 := blk_frozen BK456.out 1) | ((with_reducible refine gate_builtin (b := .append) (xs := #[.tmp 27, .tmp 29]) rfl ?_); at_builtin; refine Kd.R_append (Kd.int .i64) (w0 := w) w.heap.size rfl (.tmp 27) (.tmp 29) 40 3 (.int .i64 0) 8 rfl Try.underlying40 info3 rfl (by decide) (by omega) u457001 x457001_1 x9_1 [.int .i64 x9_1] (fun k_ => some k_ ≠ (.slice Ao10 t452.length co10 : Value).ownBlock) (fun _ => False) rfl rfl ?aP (fun _ hk => hk.elim) ?aF ?aO ?aB ?aS ?aL ?_; (case aP => exact rfl); (case aB => exact (by repeat (first | (with_reducible first | exact HB.out | apply below_alloc | apply pw_below_drewN | apply below_drew1 | refine below_set ?_ GE450.out | refine below_set ?_ GE455.out | refine below_set ?_ GE456.out) | exact HB.out))); (case aF => exact (fun k_ hk => Kd.fresh' (Kd.R_lt (by (with_reducible repeat (first | apply Kd.R_alloc | apply Kd.R_drewN | apply Kd.R_drew)); exact HO_456001.out)) k_ hk)); (case aO => exact (by (with_reducible repeat (first | apply Kd.R_alloc | apply Kd.R_drewN | apply Kd.R_drew)); exact HO_457001.out)); (case aS => exact (below_size (by repeat (first | (with_reducible first | exact HB.out | apply below_alloc | apply pw_below_drewN | apply below_drew1 | refine below_set ?_ GE450.out | refine below_set ?_ GE455.out | refine below_set ?_ GE456.out) | exact HB.out)))); (case aL => have := LMc18.out; omega); intro v459 w24 ho hb hg hat; rw [← Ny458.out] at ho; have n0_ := Aside0.mk (Kd.R_after (ok := (fun _ => True)) (by (with_reducible repeat (first | apply Kd.R_alloc | apply Kd.R_drewN | apply Kd.R_drew)); exact Kd.R_mono HO_456001.out (fun _ hk => ⟨trivial, hk⟩)) hg hat); have n1_ := Aside0.mk (blk_grown (g := gb450) (o := .cells #[.int .u64 0, .slice none 0 0] 45 (0, 0)) (by (with_reducible repeat (first | refine blk_drewN ?_ _ | refine blk_drew ?_ | refine blk_alloc ?_ _)); exact BK450.out) hg (Kd.R_ne HO_457001.out BK450.out (by decide))); have n2_ := Aside0.mk (blk_grown (g := gb455) (o := .cells #[.int .u64 t451, .slice Ao10 t452.length co10] 45 (0, 0)) (by (with_reducible repeat (first | refine blk_drewN ?_ _ | refine blk_drew ?_ | refine blk_alloc ?_ _)); exact BK455.out) hg (Kd.R_ne HO_457001.out BK455.out (by decide))); have n3_ := Aside0.mk (blk_grown (g := gb456) (o := .cells #[.int .u64 t451, u457001] 45 (0, 0)) (by (with_reducible repeat (first | refine blk_drewN ?_ _ | refine blk_drew ?_ | refine blk_alloc ?_ _)); exact BK456.out) hg (Kd.R_ne HO_457001.out BK456.out (by decide))); have n4_ := Aside0.mk (hb); have n5_ := Aside0.mk (ho); clear HO_456001; clear BK450; clear BK455; clear BK456; clear HB; clear HO_457001; have HO_456001 := n0_; have BK450 := n1_; have BK455 := n2_; have BK456 := n3_; have HB := n4_; have HO460 := n5_; clear n0_ n1_ n2_ n3_ n4_ n5_; clear ho hb hg hat; obtain ⟨Ao25, co25, eo25⟩ := Kd.R_slice HO460.out; subst eo25; have hcz26_0 : w24.cell? ⟨gb456, 0, none⟩ = some (.int .u64 t451) := (blk_cell BK456.out 0).trans rfl; have hcz26_1 : w24.cell? ⟨gb456, 1, none⟩ = some (u457001) := (blk_cell BK456.out 1).trans rfl; have hfz26_0 := blk_frozen BK456.out 0; have hfz26_1 := blk_frozen BK456.out 1))
            go_roundg k1
            case measure => have := HK1.out; omega
            case rel => exact ⟨(wrap64 (x9_1 + 1)), (y458), (.slice Ao25 y458.length co25), (by first | rfl | (simp; done) | (simp [*]; done)), H', ⟨by have := HK1.out; omega⟩, ⟨by (with_reducible repeat (first | apply Kd.R_alloc | apply Kd.R_drewN | apply Kd.R_drew)); exact Kd.R_mono (Kd.R_far (p := ⟨gb456, 1, none⟩) (Kd.R_types HO_456001.out BK456.out (by decide)) (fun _ hk => hk.2) (.slice Ao25 y458.length co25)) (fun _ hk => hk.1.2)⟩, ⟨by (with_reducible repeat (first | apply Kd.R_alloc | apply Kd.R_drewN | apply Kd.R_drew)); exact Kd.R_mono (Kd.R_far (p := ⟨gb456, 1, none⟩) (Kd.R_types HO460.out BK456.out (by decide)) (fun _ hk => hk.2) (.slice Ao25 y458.length co25)) (fun _ hk => hk.1)⟩, ⟨by (with_reducible repeat (first | refine blk_drewN ?_ _ | refine blk_drew ?_ | refine blk_alloc ?_ _)); refine blk_far ?_ NB450_456.out _; (with_reducible repeat (first | refine blk_drewN ?_ _ | refine blk_drew ?_ | refine blk_alloc ?_ _)); exact BK450.out⟩, ⟨by (with_reducible repeat (first | refine blk_drewN ?_ _ | refine blk_drew ?_ | refine blk_alloc ?_ _)); refine blk_far ?_ NB455_456.out _; (with_reducible repeat (first | refine blk_drewN ?_ _ | refine blk_drew ?_ | refine blk_alloc ?_ _)); exact BK455.out⟩, ⟨by (with_reducible repeat (first | refine blk_drewN ?_ _ | refine blk_drew ?_ | refine blk_alloc ?_ _)); refine blk_put (cs := #[.int .u64 t451, u457001]) ?_ 1 _ rfl; (with_reducible repeat (first | refine blk_drewN ?_ _ | refine blk_drew ?_ | refine blk_alloc ?_ _)); exact BK456.out⟩, ⟨by repeat (first | (with_reducible first | exact HB.out | apply below_alloc | apply pw_below_drewN | apply below_drew1 | refine below_set ?_ GE450.out | refine below_set ?_ GE455.out | refine below_set ?_ GE456.out) | exact HB.out)⟩⟩
          · rw [if_neg c18] at H
            exact absurd H (by simp)
        · replace c17 := Bool.eq_false_iff.mpr c17
          subst c17
          have H1 : (downpourref06_Some.l0 k1 a1 a2 (wrap64 (x9_1 + 1)) t451 t452 t451 x457001_1) = some (r1, r2) := by rw [if_neg (show ¬ (false = true) by decide)] at H; exact H
          clear H
          have H := H1
          clear H1
          have H' := Aside0.mk H
          clear H
          have hnb27 := NB455_450.out
          have hnc27 := NB450_455.out
          have hnb28 := NB455_456.out
          have hnc28 := NB456_455.out
          have hcz29_0 : wr.cell? ⟨gb455, 0, none⟩ = some (.int .u64 t451) := (blk_cell BK455.out 0).trans rfl
          have hcz29_1 : wr.cell? ⟨gb455, 1, none⟩ = some (.slice Ao10 t452.length co10) := (blk_cell BK455.out 1).trans rfl
          have hfz29_0 := blk_frozen BK455.out 0
          have hfz29_1 := blk_frozen BK455.out 1
          go_wp2_with (first | ((with_reducible refine gate_callee (f := 86) rfl ?_); refine goesL_ (some 25) rfl rfl Try.func86 (by kernel_rfl) rfl #[.slice Ao10 t452.length co10, .int .i64 a2, .int .i64 x9_1] rfl (by (try simp only [List.map_toArray, List.map_cons, List.map_nil]); first | done | rfl | (simp only [List.length_drop, List.length_take]; rfl)) ?_; (with_reducible refine (downpourref06_in.calls k1 _ _ t452 a2 x9_1 false _ ?side1 ?side2 A16.out).mono ?_); (case side1 => repeat (first | exact (Kd.R_reads' HO_456001.out).2.2 | (with_reducible refine Kd.C_alloc ?_ _) | (with_reducible refine Kd.C_drewN ?_ _) | (with_reducible refine Kd.C_drew ?_))); (case side2 => exact (Kd.R_reads' HO_456001.out).2.1); rintro e w' ⟨rfl, ⟨nd, rfl⟩⟩; refine ⟨_, rfl, ?_⟩))
          go_roundg k1
          case measure => have := HK1.out; omega
          case rel => exact ⟨(wrap64 (x9_1 + 1)), (x457001_1), (u457001), (by first | rfl | (simp; done) | (simp [*]; done)), H', ⟨by have := HK1.out; omega⟩, ⟨by (with_reducible repeat (first | apply Kd.R_alloc | apply Kd.R_drewN | apply Kd.R_drew)); exact HO_456001.out⟩, ⟨by (with_reducible repeat (first | apply Kd.R_alloc | apply Kd.R_drewN | apply Kd.R_drew)); exact HO_457001.out⟩, ⟨by (with_reducible repeat (first | refine blk_drewN ?_ _ | refine blk_drew ?_ | refine blk_alloc ?_ _)); exact BK450.out⟩, ⟨by (with_reducible repeat (first | refine blk_drewN ?_ _ | refine blk_drew ?_ | refine blk_alloc ?_ _)); exact BK455.out⟩, ⟨by (with_reducible repeat (first | refine blk_drewN ?_ _ | refine blk_drew ?_ | refine blk_alloc ?_ _)); exact BK456.out⟩, ⟨by repeat (first | (with_reducible first | exact HB.out | apply below_alloc | apply pw_below_drewN | apply below_drew1 | refine below_set ?_ GE450.out | refine below_set ?_ GE455.out | refine below_set ?_ GE456.out) | exact HB.out)⟩⟩
      · rw [if_neg c15] at H
        have c15b0 : decide (x9_1 < a1) = false := decide_eq_false c15
        clear c15
        simp only [Option.some.injEq, Prod.mk.injEq] at H
        obtain ⟨rfl, rfl⟩ := H
        have hnb30 := NB456_450.out
        have hnc30 := NB450_456.out
        have hnb31 := NB456_455.out
        have hnc31 := NB455_456.out
        have hcz32_0 : wr.cell? ⟨gb456, 0, none⟩ = some (.int .u64 t451) := (blk_cell BK456.out 0).trans rfl
        have hcz32_1 : wr.cell? ⟨gb456, 1, none⟩ = some (u457001) := (blk_cell BK456.out 1).trans rfl
        have hfz32_0 := blk_frozen BK456.out 0
        have hfz32_1 := blk_frozen BK456.out 1
        have hnb33 := NB450_455.out
        have hnc33 := NB455_450.out
        have hcz34_0 : wr.cell? ⟨gb450, 0, none⟩ = some (.int .u64 0) := (blk_cell BK450.out 0).trans rfl
        have hcz34_1 : wr.cell? ⟨gb450, 1, none⟩ = some (.slice none 0 0) := (blk_cell BK450.out 1).trans rfl
        have hfz34_0 := blk_frozen BK450.out 0
        have hfz34_1 := blk_frozen BK450.out 1
        obtain ⟨Ao35, co35, eo35⟩ := Kd.R_slice HO_457001.out
        subst eo35
        go_wp2
        refine bodyPost_ret (results_cell_row rfl _ _ gb450 45 #[.int .u64 t451, .slice Ao35 x457001_1.length co35] (0, 0) _ rfl (by (with_reducible repeat (first | refine blk_drewN ?_ _ | refine blk_drew ?_ | refine blk_alloc ?_ _)); refine blk_put (cs := #[.int .u64 t451, .slice none 0 0]) ?_ 1 _ rfl; (with_reducible repeat (first | refine blk_drewN ?_ _ | refine blk_drew ?_ | refine blk_alloc ?_ _)); refine blk_put (cs := #[.int .u64 0, .slice none 0 0]) ?_ 0 _ rfl; (with_reducible repeat (first | refine blk_drewN ?_ _ | refine blk_drew ?_ | refine blk_alloc ?_ _)); exact BK450.out) Try.underlying45 rfl (by kernel_rfl)) rfl ?_
        exact ⟨_, by first | rfl | (simp [errW_none, errW_some] <;> rfl) | (simp [*, errW_none, errW_some] <;> rfl), by (with_reducible repeat (first | apply Kd.R_alloc | apply Kd.R_drewN | apply Kd.R_drew)); exact Kd.R_mono (Kd.R_far (p := ⟨gb450, 1, none⟩) (Kd.R_far (p := ⟨gb450, 0, none⟩) (Kd.R_types HO_457001.out BK450.out (by decide)) (fun _ hk => hk.2) (.int .u64 t451)) (fun _ hk => hk.2) (.slice Ao35 x457001_1.length co35)) (fun _ hk => trivial), by repeat (first | (with_reducible first | exact HB.out | apply below_alloc | apply pw_below_drewN | apply below_drew1 | refine below_set ?_ GE450.out | refine below_set ?_ GE455.out | refine below_set ?_ GE456.out) | exact HB.out)⟩

/-! ### slices_Index_int_int: function 87 -/
end Go.Proofs.Ytaofanhdmfdlmaa.Print

