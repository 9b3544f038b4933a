-- PRINTED by print.py (a twelfth state) out of the translation. Not trusted: Lean checks it.
import Derived.Test.YtaofanhdmfdlmaaPrint0
import Derived.Test.YtaofanhdmfdlmaaPrint36
namespace Go.Proofs.Ytaofanhdmfdlmaa.Print
open Go.RowKit Go.Proofs.YtaofanhdmfdlmaaW.PrintWords Go.Proofs.YtaofanhdmfdlmaaW.PrintLast Go.Proofs.YtaofanhdmfdlmaaW.PrintMore
attribute [local go_sem] max2_int min2_int max_two min_two max_three min_three max_four min_four   -- for this text's walks alone
set_option linter.unusedVariables false
set_option linter.unusedSimpArgs false

/-! ### downpourref06_Shuffle: function 26 -/
mutual
def downpourref06_Shuffle.l0 : Nat → Int → Int → List Int → Int → Option (Int × List Int)
  | 0, _, _, _, _ => none
  | k + 1, x0, x1, x5, x6 => if x6 < x1 then (if x5.length < 17592186044416 then (downpourref06_Shuffle.l0 k x0 x1 (x5 ++ [x6]) (wrap64 (x6 + 1))) else (none)) else (downpourref06_Shuffle.l1 k x0 x5 (wrap64 (x1 - 1)))
def downpourref06_Shuffle.l1 : Nat → Int → List Int → Int → Option (Int × List Int)
  | 0, _, _, _ => none
  | k + 1, x0, x5, x7 => if x7 > 0 then ((downpourref06_Below.f k x0 (wrap64 (x7 + 1))).bind fun bt439 => (if 0 ≤ x7 then (if x7 < (x5.length : Int) then (if 0 ≤ bt439.2 then (if bt439.2 < (x5.length : Int) then (downpourref06_Shuffle.l1 k bt439.1 ((x5.set (x7 : Int).toNat (rd x5 bt439.2)).set (bt439.2 : Int).toNat (rd x5 x7)) (wrap64 (x7 - 1))) else (none)) else (none)) else (none)) else (none))) else (some (x0, x5))
end
def downpourref06_Shuffle.f (k : Nat) (a0 : Int) (a1 : Int) : Option (Int × List Int) := downpourref06_Shuffle.l0 k a0 a1 (([] : List Int)) 0
theorem downpourref06_Shuffle.mono_l : ∀ k, (∀ y0 y1 y2 y3, LeO (downpourref06_Shuffle.l0 k y0 y1 y2 y3) (downpourref06_Shuffle.l0 (k + 1) y0 y1 y2 y3)) ∧ (∀ y0 y1 y2, LeO (downpourref06_Shuffle.l1 k y0 y1 y2) (downpourref06_Shuffle.l1 (k + 1) y0 y1 y2))
  | 0 => ⟨fun _ _ _ _ r h => by simp [downpourref06_Shuffle.l0] at h, fun _ _ _ r h => by simp [downpourref06_Shuffle.l1] at h⟩
  | k + 1 => by
    obtain ⟨ih0, ih1⟩ := downpourref06_Shuffle.mono_l k
    refine ⟨?_, ?_⟩
    · intro y0 y1 y2 y3
      unfold downpourref06_Shuffle.l0
      repeat' first
      | (with_reducible exact ih0 _ _ _ _)
      | (with_reducible exact ih1 _ _ _)
      | (with_reducible exact downpourref06_Below.mono _ _ _)
      | (with_reducible exact LeO.refl _)
      | (with_reducible exact LeO.none _)
      | (with_reducible refine LeO.ite ?_ ?_)
      | (with_reducible refine LeO.bind ?_ (fun _ => ?_))
      | exact ih0 _ _ _ _
      | exact ih1 _ _ _
      | exact downpourref06_Below.mono _ _ _
      | exact LeO.none _
      | refine LeO.ite ?_ ?_
      | refine LeO.bind ?_ (fun _ => ?_)
    · intro y0 y1 y2
      unfold downpourref06_Shuffle.l1
      repeat' first
      | (with_reducible exact ih0 _ _ _ _)
      | (with_reducible exact ih1 _ _ _)
      | (with_reducible exact downpourref06_Below.mono _ _ _)
      | (with_reducible exact LeO.refl _)
      | (with_reducible exact LeO.none _)
      | (with_reducible refine LeO.ite ?_ ?_)
      | (with_reducible refine LeO.bind ?_ (fun _ => ?_))
      | exact ih0 _ _ _ _
      | exact ih1 _ _ _
      | exact downpourref06_Below.mono _ _ _
      | exact LeO.none _
      | refine LeO.ite ?_ ?_
      | refine LeO.bind ?_ (fun _ => ?_)
theorem downpourref06_Shuffle.mono : ∀ a0 a1 k, LeO (downpourref06_Shuffle.f k a0 a1) (downpourref06_Shuffle.f (k + 1) a0 a1) := by
  intro a0 a1 k
  obtain ⟨ih0, ih1⟩ := downpourref06_Shuffle.mono_l k
  unfold downpourref06_Shuffle.f
  repeat' first
      | (with_reducible exact ih0 _ _ _ _)
      | (with_reducible exact ih1 _ _ _)
      | (with_reducible exact downpourref06_Below.mono _ _ _)
      | (with_reducible exact LeO.refl _)
      | (with_reducible exact LeO.none _)
      | (with_reducible refine LeO.ite ?_ ?_)
      | (with_reducible refine LeO.bind ?_ (fun _ => ?_))
      | exact ih0 _ _ _ _
      | exact ih1 _ _ _
      | exact downpourref06_Below.mono _ _ _
      | exact LeO.none _
      | refine LeO.ite ?_ ?_
      | refine LeO.bind ?_ (fun _ => ?_)
set_option maxHeartbeats 8000000 in
set_option maxRecDepth 100000 in
theorem downpourref06_Shuffle.calls (k : Nat) (a0 : Int) (a1 : Int) (r1 : Int) (r2 : List Int) (w : World) (h : downpourref06_Shuffle.f k a0 a1 = some (r1, r2)) :
    Calls Try.prog 26 #[.int .u64 a0, .int .i64 a1] w fun e w' => ∃ v1_ : Value, e = .returned (.agg #[.int .u64 r1, v1_]) ∧ Kd.R (Kd.int .i64) 3 w' w.heap.size (fun _ => True) v1_ r2 ∧ Below w.heap.size w w' := by
  have hu45 := Try.underlying45
  have hu129 := Try.underlying129
  have HB := Aside0.mk (Below.refl w.heap.size w)
  have H : (downpourref06_Shuffle.l0 k a0 a1 (([] : List Int)) 0) = some (r1, r2) := h
  clear h
  obtain ⟨y433, hy433⟩ : ∃ y_ : List Int, y_ = (([] : List Int)) := ⟨_, rfl⟩
  replace H : (downpourref06_Shuffle.l0 k a0 a1 y433 0) = some (r1, r2) := by first | (rw [hy433]; with_reducible exact H) | (have H2_ := (Option.bind_some _ _).symm.trans H; rw [hy433]; with_reducible exact H2_) | (have H2_ := (Option.bind_some _ _).symm.trans H; with_reducible exact H2_) | with_reducible exact H | (rw [hy433]; exact H) | exact H
  have Ny433 := Aside0.mk hy433
  clear hy433
  have H' := Aside0.mk H
  clear H
  go_enter Try.func26, Try.ntmps26
  go_wp2_with (first | ((with_reducible refine gate_dst (N := 4) rfl ?_); refine box_event ?hg (N := 4) ?hd (cs := #[.int .u64 0, .slice none 0 0]) (t := 45) ?hr ?_; (case hd => rfl); (case hg => rfl); (case hr => first | (go_simp; done) | (go_simp; rfl)); intro gb432 hg w3 hbox hb; have n0_ := Aside0.mk (below_step (by repeat (first | (with_reducible first | exact HB.out | apply below_alloc | apply pw_below_drewN | apply below_drew1) | exact HB.out)) hb); have n1_ := Aside0.mk (hbox); have n2_ := Aside0.mk ((by rw [hg]; exact (below_size (by repeat (first | (with_reducible first | exact HB.out | apply below_alloc | apply pw_below_drewN | apply below_drew1) | exact HB.out))) : w.heap.size ≤ gb432)); have n3_ := Aside0.mk ((by rw [hg]; exact (below_size (by repeat (first | (with_reducible first | exact HB.out | apply below_alloc | apply pw_below_drewN | apply below_drew1) | exact HB.out))) : w.heap.size ≤ gb432)); clear HB; have HB := n0_; have BK432 := n1_; have GW432 := n2_; have GE432 := n3_; clear n0_ n1_ n2_ n3_; clear hb hbox hg) | ((with_reducible refine gate_dst (N := 10) rfl ?_); refine Kd.R_lit (Kd.int .i64) _ 3 ?hg (N := 10) ?hd (xs := ([] : List Int)) (inner := []) (ok := fun _ => True) (okp := fun _ => True) ?hr ?hp (fun _ hk => hk) trivial (Below.refl _ _) (Nat.le_refl _) (by simp) ?_; (case hd => rfl); (case hg => rfl); (case hr => first | (go_simp; done) | (go_simp; rfl)); (case hp => exact (Reps.none _ _)); intro v434 w4 ho5 hb hg_ hnew_; clear hg_ hnew_; (first | rw [← Ny433.out] at ho5 | (simp only [Int.reduceToNat] at ho5; rw [← Ny433.out] at ho5)); have n0_ := Aside0.mk (Kd.R_lower ho5 (below_size (by repeat (first | (with_reducible first | exact HB.out | apply below_alloc | apply pw_below_drewN | apply below_drew1 | refine below_set ?_ GE432.out) | exact HB.out)))); have n1_ := Aside0.mk (blk_below (g := gb432) (o := .cells #[.int .u64 0, .slice none 0 0] 45 (0, 0)) (by (with_reducible repeat (first | refine blk_drewN ?_ _ | refine blk_drew ?_ | refine blk_alloc ?_ _)); exact BK432.out) hb); have n2_ := Aside0.mk (below_step (by repeat (first | (with_reducible first | exact HB.out | apply below_alloc | apply pw_below_drewN | apply below_drew1 | refine below_set ?_ GE432.out) | exact HB.out)) hb); clear BK432; clear HB; have HO435 := n0_; have BK432 := n1_; have HB := n2_; clear n0_ n1_ n2_; clear hb ho5))
  go_loopg [5, 6] k (fun kq v5 v6 w' => ∃ (x5_1 : List Int) (x6_1 : Int), v6 = .int .i64 x6_1 ∧ Aside0 (downpourref06_Shuffle.l0 kq a0 a1 x5_1 x6_1 = some (r1, r2)) ∧ Aside0 (kq ≤ k) ∧ Aside0 (Kd.R (Kd.int .i64) 3 w' w.heap.size (fun _ => True) v5 x5_1) ∧ Aside0 (w'.heap[gb432]? = some (.cells #[.int .u64 0, (.slice none 0 0)] 45 (0, 0))) ∧ Aside0 (Below w.heap.size w w'))
  case atStart => exact ⟨(y433), (0), (by first | rfl | (simp; done) | (simp [*]; done)), H', ⟨Nat.le_refl _⟩, ⟨by (with_reducible repeat (first | apply Kd.R_alloc | apply Kd.R_drewN | apply Kd.R_drew)); exact HO435.out⟩, ⟨by (with_reducible repeat (first | refine blk_drewN ?_ _ | refine blk_drew ?_ | refine blk_alloc ?_ _)); exact BK432.out⟩, ⟨by repeat (first | (with_reducible first | exact HB.out | apply below_alloc | apply pw_below_drewN | apply below_drew1 | refine below_set ?_ GE432.out) | exact HB.out)⟩⟩
  case round =>
    clear H'
    try clear c2
    try clear p2
    obtain ⟨x5_1, x6_1, rfl, HA, HK1, HO_5, BK432, HB⟩ := hrel
    cases gk with
    | zero => exact absurd HA.out (by simp [downpourref06_Shuffle.l0])
    | succ k1 =>
      have H := HA.out
      clear HA
      simp only [downpourref06_Shuffle.l0] at H
      by_cases c6 : x6_1 < a1
      · rw [if_pos c6] at H
        have c6b0 : decide (x6_1 < a1) = true := decide_eq_true c6
        clear c6
        by_cases c7 : x5_1.length < 17592186044416
        · rw [if_pos c7] at H
          have LMc7 := Aside0.mk c7
          clear c7
          obtain ⟨y436, hy436⟩ : ∃ y_ : List Int, y_ = (x5_1 ++ [x6_1]) := ⟨_, rfl⟩
          replace H : (downpourref06_Shuffle.l0 k1 a0 a1 y436 (wrap64 (x6_1 + 1))) = some (r1, r2) := by first | (rw [hy436]; with_reducible exact H) | (have H2_ := (Option.bind_some _ _).symm.trans H; rw [hy436]; with_reducible exact H2_) | (have H2_ := (Option.bind_some _ _).symm.trans H; with_reducible exact H2_) | with_reducible exact H | (rw [hy436]; exact H) | exact H
          have Ny436 := Aside0.mk hy436
          clear hy436
          have H' := Aside0.mk H
          clear H
          go_wp2_with (first | ((with_reducible refine gate_builtin (b := .append) (xs := #[.tmp 16, .tmp 18]) rfl ?_); at_builtin; refine Kd.R_append (Kd.int .i64) (w0 := w) w.heap.size rfl (.tmp 16) (.tmp 18) 40 3 (.int .i64 0) 8 rfl Try.underlying40 info3 rfl (by decide) (by omega) u5 x5_1 x6_1 [.int .i64 x6_1] (fun _ => True) (fun _ => False) rfl rfl ?aP (fun _ hk => hk.elim) ?aF ?aO ?aB ?aS ?aL ?_; (case aP => exact rfl); (case aB => exact (by repeat (first | (with_reducible first | exact HB.out | apply below_alloc | apply pw_below_drewN | apply below_drew1 | refine below_set ?_ GE432.out) | exact HB.out))); (case aF => exact (fun _ _ => trivial)); (case aO => exact (by (with_reducible repeat (first | apply Kd.R_alloc | apply Kd.R_drewN | apply Kd.R_drew)); exact HO_5.out)); (case aS => exact (below_size (by repeat (first | (with_reducible first | exact HB.out | apply below_alloc | apply pw_below_drewN | apply below_drew1 | refine below_set ?_ GE432.out) | exact HB.out)))); (case aL => have := LMc7.out; omega); intro v437 w8 ho hb hg hat; rw [← Ny436.out] at ho; have n0_ := Aside0.mk (blk_grown (g := gb432) (o := .cells #[.int .u64 0, .slice none 0 0] 45 (0, 0)) (by (with_reducible repeat (first | refine blk_drewN ?_ _ | refine blk_drew ?_ | refine blk_alloc ?_ _)); exact BK432.out) hg (Kd.R_ne HO_5.out BK432.out (by decide))); have n1_ := Aside0.mk (hb); have n2_ := Aside0.mk (ho); clear BK432; clear HB; clear HO_5; have BK432 := n0_; have HB := n1_; have HO438 := n2_; clear n0_ n1_ n2_; clear ho hb hg hat))
          go_roundg k1
          case measure => have := HK1.out; omega
          case rel => exact ⟨(y436), (wrap64 (x6_1 + 1)), (by first | rfl | (simp; done) | (simp [*]; done)), H', ⟨by have := HK1.out; omega⟩, ⟨by (with_reducible repeat (first | apply Kd.R_alloc | apply Kd.R_drewN | apply Kd.R_drew)); exact HO438.out⟩, ⟨by (with_reducible repeat (first | refine blk_drewN ?_ _ | refine blk_drew ?_ | refine blk_alloc ?_ _)); exact BK432.out⟩, ⟨by repeat (first | (with_reducible first | exact HB.out | apply below_alloc | apply pw_below_drewN | apply below_drew1 | refine below_set ?_ GE432.out) | exact HB.out)⟩⟩
        · rw [if_neg c7] at H
          exact absurd H (by simp)
      · rw [if_neg c6] at H
        have c6b0 : decide (x6_1 < a1) = false := decide_eq_false c6
        clear c6
        have H' := Aside0.mk H
        clear H
        go_wp2
        go_loopg [0, 7] k1 (fun kq v0 v7 w' => ∃ (x0_2 : Int) (x5_2 : List Int) (x7_2 : Int), v0 = .int .u64 x0_2 ∧ v7 = .int .i64 x7_2 ∧ Aside0 (downpourref06_Shuffle.l1 kq x0_2 x5_2 x7_2 = some (r1, r2)) ∧ Aside0 (kq ≤ k1) ∧ Aside0 (Kd.R (Kd.int .i64) 3 w' w.heap.size (fun _ => True) u5 x5_2) ∧ Aside0 (w'.heap[gb432]? = some (.cells #[.int .u64 0, (.slice none 0 0)] 45 (0, 0))) ∧ Aside0 (Below w.heap.size w w'))
        case atStart => exact ⟨(a0), (x5_1), (wrap64 (a1 - 1)), (by first | rfl | (simp; done) | (simp [*]; done)), (by first | rfl | (simp; done) | (simp [*]; done)), H', ⟨Nat.le_refl _⟩, ⟨by (with_reducible repeat (first | apply Kd.R_alloc | apply Kd.R_drewN | apply Kd.R_drew)); exact HO_5.out⟩, ⟨by (with_reducible repeat (first | refine blk_drewN ?_ _ | refine blk_drew ?_ | refine blk_alloc ?_ _)); exact BK432.out⟩, ⟨by repeat (first | (with_reducible first | exact HB.out | apply below_alloc | apply pw_below_drewN | apply below_drew1 | refine below_set ?_ GE432.out) | exact HB.out)⟩⟩
        case round =>
          clear H'
          try clear c2
          try clear p2
          try clear c6
          try clear c6b0
          try clear p6
          try clear c7
          try clear p2
          obtain ⟨x0_2, x5_2, x7_2, rfl, rfl, HA, HK2, HO_5, BK432, HB⟩ := hrel
          cases gk with
          | zero => exact absurd HA.out (by simp [downpourref06_Shuffle.l1])
          | succ k2 =>
            have H := HA.out
            clear HA
            simp only [downpourref06_Shuffle.l1] at H
            by_cases c9 : x7_2 > 0
            · rw [if_pos c9] at H
              have c9b0 : decide (0 < x7_2) = true := decide_eq_true c9
              clear c9
              replace H := Option.bind_eq_some_iff.mp H
              obtain ⟨⟨t439, t440⟩, A100, H⟩ := H
              replace H : (if 0 ≤ x7_2 then (if x7_2 < (x5_2.length : Int) then (if 0 ≤ t440 then (if t440 < (x5_2.length : Int) then (downpourref06_Shuffle.l1 k2 t439 ((x5_2.set (x7_2 : Int).toNat (rd x5_2 t440)).set (t440 : Int).toNat (rd x5_2 x7_2)) (wrap64 (x7_2 - 1))) else (none)) else (none)) else (none)) else (none)) = some (r1, r2) := H
              have A10 := Aside0.mk A100
              clear A100
              by_cases c11 : 0 ≤ x7_2
              · rw [if_pos c11] at H
                have c11b0 : decide (0 ≤ x7_2) = true := decide_eq_true c11
                clear c11
                by_cases c12 : x7_2 < (x5_2.length : Int)
                · rw [if_pos c12] at H
                  have c12b0 : decide (x7_2 < (x5_2.length : Int)) = true := decide_eq_true c12
                  clear c12
                  by_cases c13 : 0 ≤ t440
                  · rw [if_pos c13] at H
                    have c13b0 : decide (0 ≤ t440) = true := decide_eq_true c13
                    clear c13
                    by_cases c14 : t440 < (x5_2.length : Int)
                    · rw [if_pos c14] at H
                      have c14b0 : decide (t440 < (x5_2.length : Int)) = true := decide_eq_true c14
                      clear c14
                      obtain ⟨y444, hy444⟩ : ∃ y_ : List Int, y_ = (x5_2.set (x7_2 : Int).toNat (rd x5_2 t440)) := ⟨_, rfl⟩
                      replace H : (downpourref06_Shuffle.l1 k2 t439 (y444.set (t440 : Int).toNat (rd x5_2 x7_2)) (wrap64 (x7_2 - 1))) = some (r1, r2) := by first | (rw [hy444]; with_reducible exact H) | (have H2_ := (Option.bind_some _ _).symm.trans H; rw [hy444]; with_reducible exact H2_) | (have H2_ := (Option.bind_some _ _).symm.trans H; with_reducible exact H2_) | with_reducible exact H | (rw [hy444]; exact H) | exact H
                      have Ny444 := Aside0.mk hy444
                      clear hy444
                      obtain ⟨y445, hy445⟩ : ∃ y_ : List Int, y_ = (y444.set (t440 : Int).toNat (rd x5_2 x7_2)) := ⟨_, rfl⟩
                      replace H : (downpourref06_Shuffle.l1 k2 t439 y445 (wrap64 (x7_2 - 1))) = some (r1, r2) := by first | (rw [hy445]; with_reducible exact H) | (have H2_ := (Option.bind_some _ _).symm.trans H; rw [hy445]; with_reducible exact H2_) | (have H2_ := (Option.bind_some _ _).symm.trans H; with_reducible exact H2_) | with_reducible exact H | (rw [hy445]; exact H) | exact H
                      have Ny445 := Aside0.mk hy445
                      clear hy445
                      have H' := Aside0.mk H
                      clear H
                      go_wp2_with (first | ((with_reducible refine gate_callee (f := 85) rfl ?_); refine goesL_ (some 29) rfl rfl Try.func85 (by kernel_rfl) rfl #[.int .u64 x0_2, .int .i64 (wrap64 (x7_2 + 1))] rfl (by (try simp only [List.map_toArray, List.map_cons, List.map_nil]); first | done | rfl | (simp only [List.length_drop, List.length_take]; rfl)) ?_; (with_reducible refine (downpourref06_Below.calls k2 x0_2 (wrap64 (x7_2 + 1)) t439 t440 _ A10.out).mono ?_); rintro e w17 ⟨rfl, hb⟩; refine ⟨_, rfl, ?_⟩; have n0_ := Aside0.mk (Kd.R_below (by (with_reducible repeat (first | apply Kd.R_alloc | apply Kd.R_drewN | apply Kd.R_drew)); exact HO_5.out) hb); have n1_ := Aside0.mk (blk_below (g := gb432) (o := .cells #[.int .u64 0, .slice none 0 0] 45 (0, 0)) (by (with_reducible repeat (first | refine blk_drewN ?_ _ | refine blk_drew ?_ | refine blk_alloc ?_ _)); exact BK432.out) hb); have n2_ := Aside0.mk (below_step (by repeat (first | (with_reducible first | exact HB.out | apply below_alloc | apply pw_below_drewN | apply below_drew1 | refine below_set ?_ GE432.out) | exact HB.out)) hb); clear HO_5; clear BK432; clear HB; have HO_5 := n0_; have BK432 := n1_; have HB := n2_; clear n0_ n1_ n2_; (try clear hb); (try clear hb2); (try clear hk); (try clear hi)) | ((with_reducible refine gate_dst (N := 8) rfl ?_); refine box_event ?hg (N := 8) ?hd (cs := #[.int .u64 0, .int .i64 0]) (t := 129) ?hr ?_; (case hd => rfl); (case hg => rfl); (case hr => first | (go_simp; done) | (go_simp; rfl)); intro gb441 hg w18 hbox hb; have n0_ := Aside0.mk (Kd.R_below (by (with_reducible repeat (first | apply Kd.R_alloc | apply Kd.R_drewN | apply Kd.R_drew)); exact HO_5.out) hb); have n1_ := Aside0.mk (blk_below (g := gb432) (o := .cells #[.int .u64 0, .slice none 0 0] 45 (0, 0)) (by (with_reducible repeat (first | refine blk_drewN ?_ _ | refine blk_drew ?_ | refine blk_alloc ?_ _)); exact BK432.out) hb); have n2_ := Aside0.mk (below_step (by repeat (first | (with_reducible first | exact HB.out | apply below_alloc | apply pw_below_drewN | apply below_drew1 | refine below_set ?_ GE432.out) | exact HB.out)) hb); have n3_ := Aside0.mk (hbox); have n4_ := Aside0.mk ((by rw [hg]; exact (below_size (by repeat (first | (with_reducible first | exact HB.out | apply below_alloc | apply pw_below_drewN | apply below_drew1 | refine below_set ?_ GE432.out) | exact HB.out))) : w.heap.size ≤ gb441)); have n5_ := Aside0.mk ((by rw [hg]; exact (below_size (by repeat (first | (with_reducible first | exact HB.out | apply below_alloc | apply pw_below_drewN | apply below_drew1 | refine below_set ?_ GE432.out) | exact HB.out))) : w.heap.size ≤ gb441)); have n6_ := Aside0.mk ((by rw [hg]; exact Nat.ne_of_lt (blk_lt (g := gb432) (o := .cells #[.int .u64 0, .slice none 0 0] 45 (0, 0)) (by (with_reducible repeat (first | refine blk_drewN ?_ _ | refine blk_drew ?_ | refine blk_alloc ?_ _)); exact BK432.out)) : gb432 ≠ gb441)); have n7_ := Aside0.mk ((by rw [hg]; exact Nat.ne_of_gt (blk_lt (g := gb432) (o := .cells #[.int .u64 0, .slice none 0 0] 45 (0, 0)) (by (with_reducible repeat (first | refine blk_drewN ?_ _ | refine blk_drew ?_ | refine blk_alloc ?_ _)); exact BK432.out)) : gb441 ≠ gb432)); clear HO_5; clear BK432; clear HB; have HO_5 := n0_; have BK432 := n1_; have HB := n2_; have BK441 := n3_; have GW441 := n4_; have GE441 := n5_; have NB432_441 := n6_; have NB441_432 := n7_; clear n0_ n1_ n2_ n3_ n4_ n5_ n6_ n7_; clear hb hbox hg; have hnb19 := NB441_432.out; have hnc19 := NB432_441.out; have hcz20_0 : w18.cell? ⟨gb441, 0, none⟩ = some (.int .u64 0) := (blk_cell BK441.out 0).trans rfl; have hcz20_1 : w18.cell? ⟨gb441, 1, none⟩ = some (.int .i64 0) := (blk_cell BK441.out 1).trans rfl; have hfz20_0 := blk_frozen BK441.out 0; have hfz20_1 := blk_frozen BK441.out 1) | ((with_reducible refine gate_store (t := 129) (p := 8) rfl ?_); refine store_event (t := 129) (p := 8) (v := ?vo_w21) (w1 := ((w18.setCell ⟨gb441, 0, none⟩ (.int .u64 t439)).setCell ⟨gb441, 1, none⟩ (.int .i64 t440))) ?hg ?ho ?hn ?hr ?_; (case ho => rfl); (case hg => rfl); (case hn => rfl); (case hr => first | (go_simp; done) | (go_simp; rfl)); intro w21 hw; have n0_ : Aside0 (Kd.R (Kd.int .i64) 3 w21 w.heap.size (fun _ => True) u5 x5_2) := ⟨(by rw [hw]; exact (by (with_reducible repeat (first | apply Kd.R_alloc | apply Kd.R_drewN | apply Kd.R_drew)); exact Kd.R_mono (Kd.R_far (p := ⟨gb441, 1, none⟩) (Kd.R_far (p := ⟨gb441, 0, none⟩) (Kd.R_types HO_5.out BK441.out (by decide)) (fun _ hk => hk.2) (.int .u64 t439)) (fun _ hk => hk.2) (.int .i64 t440)) (fun _ hk => trivial)))⟩; have n1_ : Aside0 (w21.heap[gb432]? = some (.cells #[.int .u64 0, .slice none 0 0] 45 (0, 0))) := ⟨(by rw [hw]; exact (by (with_reducible repeat (first | refine blk_drewN ?_ _ | refine blk_drew ?_ | refine blk_alloc ?_ _)); refine blk_far ?_ NB432_441.out _; (with_reducible repeat (first | refine blk_drewN ?_ _ | refine blk_drew ?_ | refine blk_alloc ?_ _)); refine blk_far ?_ NB432_441.out _; (with_reducible repeat (first | refine blk_drewN ?_ _ | refine blk_drew ?_ | refine blk_alloc ?_ _)); exact BK432.out))⟩; have n2_ : Aside0 (w21.heap[gb441]? = some (.cells #[.int .u64 t439, .int .i64 t440] 129 (0, 0))) := ⟨(by rw [hw]; exact (by (with_reducible repeat (first | refine blk_drewN ?_ _ | refine blk_drew ?_ | refine blk_alloc ?_ _)); refine blk_put (cs := #[.int .u64 t439, .int .i64 0]) ?_ 1 _ rfl; (with_reducible repeat (first | refine blk_drewN ?_ _ | refine blk_drew ?_ | refine blk_alloc ?_ _)); refine blk_put (cs := #[.int .u64 0, .int .i64 0]) ?_ 0 _ rfl; (with_reducible repeat (first | refine blk_drewN ?_ _ | refine blk_drew ?_ | refine blk_alloc ?_ _)); exact BK441.out))⟩; have n3_ : Aside0 (Below w.heap.size w w21) := ⟨(by rw [hw]; exact (by repeat (first | (with_reducible first | exact HB.out | apply below_alloc | apply pw_below_drewN | apply below_drew1 | refine below_set ?_ GE432.out | refine below_set ?_ GE441.out) | exact HB.out)))⟩; clear hw; clear HO_5; clear BK432; clear BK441; clear HB; have HO_5 := n0_; have BK432 := n1_; have BK441 := n2_; have HB := n3_; clear n0_ n1_ n2_ n3_; have hcz22_0 : w21.cell? ⟨gb441, 0, none⟩ = some (.int .u64 t439) := (blk_cell BK441.out 0).trans rfl; have hcz22_1 : w21.cell? ⟨gb441, 1, none⟩ = some (.int .i64 t440) := (blk_cell BK441.out 1).trans rfl; have hfz22_0 := blk_frozen BK441.out 0; have hfz22_1 := blk_frozen BK441.out 1; obtain ⟨Ao23, co23, eo23⟩ := Kd.R_slice HO_5.out; subst eo23; have p442 : 0 ≤ (x7_2 : Int) := of_decide_eq_true (by first | (with_reducible assumption) | assumption); have q442 : x7_2 < (x5_2.length : Int) := of_decide_eq_true (by first | (with_reducible assumption) | assumption); obtain ⟨ad442, e442, hx442_0⟩ := Kd.at_int (Kd.R_reads' HO_5.out).2.2 x7_2 p442 q442; cases e442; replace p442 := eq_true p442; replace q442 := eq_true q442; have p443 : 0 ≤ (t440 : Int) := of_decide_eq_true (by first | (with_reducible assumption) | assumption); have q443 : t440 < (x5_2.length : Int) := of_decide_eq_true (by first | (with_reducible assumption) | assumption); obtain ⟨ad443, e443, hx443_0⟩ := Kd.at_int (Kd.R_reads' HO_5.out).2.2 t440 p443 q443; obtain rfl : ad442 = ad443 := (by injection e443); replace p443 := eq_true p443; replace q443 := eq_true q443; have p15 : 0 ≤ (x7_2 : Int) := of_decide_eq_true (by first | (with_reducible assumption) | assumption); have q15 : (x7_2 : Int) < ((x5_2.length : Int) : Int) := of_decide_eq_true (by first | (with_reducible assumption) | assumption); obtain ⟨go15, co15, eo15, gb15, gl15, cl15, HG15⟩ := Kd.R_form HO_5.out (by omega); (first | cases eo15 | (injection eo15 with ea_ en_ ec_; (first | subst ea_ | (injection ea_ with ea_; subst ea_)); subst ec_; clear en_)); have GB15 := Aside0.mk gb15; have GG15 := Aside0.mk HG15; clear gb15 gl15 HG15; (first | simp only [add_plain] at hx442_0 | skip); (first | simp only [add_plain] at hx443_0 | skip); obtain ⟨hx15_0, hf15_0⟩ := Kd.R_celln 0 HO_5.out (x7_2 : Int) p15 q15; replace p15 := eq_true p15; replace q15 := eq_true q15; obtain ⟨hy24_, hz24_⟩ := Kd.R_celln 0 HO_5.out (x7_2 : Int) (of_decide_eq_true (by first | (with_reducible assumption) | assumption)) (of_decide_eq_true (by first | (with_reducible assumption) | assumption)); have HP24 := Kd.R_putg HO_5.out (x7_2 : Int) (rd x5_2 t440)) | ((with_reducible refine gate_store (t := 3) (p := 43) rfl ?_); refine store_event (t := 3) (p := 43) (v := ?vo_w25) (w1 := (w21.setCell ⟨go15, (x7_2 : Int).toNat, none⟩ (.int .i64 (rd x5_2 t440)))) ?hg ?ho ?hn ?hr ?_; (case ho => rfl); (case hg => rfl); (case hn => rfl); (case hr => first | (go_simp; done) | (go_simp; rfl)); intro w25 hw; have hg : w21.grownBy w25 (some go15) := (by rw [hw]; exact HP24.2); have hp_ : Kd.R (Kd.int .i64) 3 w25 w.heap.size (fun _ => True) (.slice (some ⟨go15, 0, none⟩) x5_2.length co23) y444 := (by rw [hw, Ny444.out]; exact HP24.1); clear HP24; have n0_ := Aside0.mk (hp_); have n1_ := Aside0.mk (blk_grown (g := gb432) (o := .cells #[.int .u64 0, .slice none 0 0] 45 (0, 0)) (by (with_reducible repeat (first | refine blk_drewN ?_ _ | refine blk_drew ?_ | refine blk_alloc ?_ _)); exact BK432.out) hg (Kd.R_ne HO_5.out BK432.out (by decide))); have n2_ := Aside0.mk (blk_grown (g := gb441) (o := .cells #[.int .u64 t439, .int .i64 t440] 129 (0, 0)) (by (with_reducible repeat (first | refine blk_drewN ?_ _ | refine blk_drew ?_ | refine blk_alloc ?_ _)); exact BK441.out) hg (Kd.R_ne HO_5.out BK441.out (by decide))); have n3_ := Aside0.mk ((by rw [hw]; exact below_set (HB.out) GB15.out : Below w.heap.size w w25)); clear HO_5; clear BK432; clear BK441; clear HB; have HO_5 := n0_; have BK432 := n1_; have BK441 := n2_; have HB := n3_; clear n0_ n1_ n2_ n3_; clear hg hw hp_; have hcz26_0 : w25.cell? ⟨gb441, 0, none⟩ = some (.int .u64 t439) := (blk_cell BK441.out 0).trans rfl; have hcz26_1 : w25.cell? ⟨gb441, 1, none⟩ = some (.int .i64 t440) := (blk_cell BK441.out 1).trans rfl; have hfz26_0 := blk_frozen BK441.out 0; have hfz26_1 := blk_frozen BK441.out 1; have p16 : 0 ≤ (t440 : Int) := of_decide_eq_true (by first | (with_reducible assumption) | assumption); have q16 : (t440 : Int) < ((x5_2.length : Int) : Int) := of_decide_eq_true (by first | (with_reducible assumption) | assumption); obtain ⟨hx16_0, hf16_0⟩ := Kd.R_celln 0 HO_5.out (t440 : Int) p16 q16; replace p16 := eq_true p16; replace q16 := eq_true q16; obtain ⟨hy27_, hz27_⟩ := Kd.R_celln 0 HO_5.out (t440 : Int) (of_decide_eq_true (by first | (with_reducible assumption) | assumption)) (of_decide_eq_true (by first | (with_reducible assumption) | assumption)); have HP27 := Kd.R_putg HO_5.out (t440 : Int) (rd x5_2 x7_2)) | ((with_reducible refine gate_store (t := 3) (p := 48) rfl ?_); refine store_event (t := 3) (p := 48) (v := ?vo_w28) (w1 := (w25.setCell ⟨go15, (t440 : Int).toNat, none⟩ (.int .i64 (rd x5_2 x7_2)))) ?hg ?ho ?hn ?hr ?_; (case ho => rfl); (case hg => rfl); (case hn => rfl); (case hr => first | (go_simp; done) | (go_simp; rfl)); intro w28 hw; have hg : w25.grownBy w28 (some go15) := (by rw [hw]; exact HP27.2); have hp_ : Kd.R (Kd.int .i64) 3 w28 w.heap.size (fun _ => True) (.slice (some ⟨go15, 0, none⟩) x5_2.length co23) y445 := (by rw [hw, Ny445.out]; exact HP27.1); clear HP27; have n0_ := Aside0.mk (hp_); have n1_ := Aside0.mk (blk_grown (g := gb432) (o := .cells #[.int .u64 0, .slice none 0 0] 45 (0, 0)) (by (with_reducible repeat (first | refine blk_drewN ?_ _ | refine blk_drew ?_ | refine blk_alloc ?_ _)); exact BK432.out) hg (Kd.R_ne HO_5.out BK432.out (by decide))); have n2_ := Aside0.mk (blk_grown (g := gb441) (o := .cells #[.int .u64 t439, .int .i64 t440] 129 (0, 0)) (by (with_reducible repeat (first | refine blk_drewN ?_ _ | refine blk_drew ?_ | refine blk_alloc ?_ _)); exact BK441.out) hg (Kd.R_ne HO_5.out BK441.out (by decide))); have n3_ := Aside0.mk ((by rw [hw]; exact below_set (HB.out) GB15.out : Below w.heap.size w w28)); clear HO_5; clear BK432; clear BK441; clear HB; have HO_5 := n0_; have BK432 := n1_; have BK441 := n2_; have HB := n3_; clear n0_ n1_ n2_ n3_; clear hg hw hp_))
                      go_roundg k2
                      case measure => have := HK1.out; have := HK2.out; omega
                      case rel => exact ⟨(t439), (y445), (wrap64 (x7_2 - 1)), (by first | rfl | (simp; done) | (simp [*]; done)), (by first | rfl | (simp; done) | (simp [*]; done)), H', ⟨by have := HK1.out; have := HK2.out; omega⟩, ⟨by (with_reducible repeat (first | apply Kd.R_alloc | apply Kd.R_drewN | apply Kd.R_drew)); exact HO_5.out⟩, ⟨by (with_reducible repeat (first | refine blk_drewN ?_ _ | refine blk_drew ?_ | refine blk_alloc ?_ _)); exact BK432.out⟩, ⟨by repeat (first | (with_reducible first | exact HB.out | apply below_alloc | apply pw_below_drewN | apply below_drew1 | refine below_set ?_ GE432.out | refine below_set ?_ GE441.out) | exact HB.out)⟩⟩
                    · rw [if_neg c14] at H
                      exact absurd H (by simp)
                  · rw [if_neg c13] at H
                    exact absurd H (by simp)
                · rw [if_neg c12] at H
                  exact absurd H (by simp)
              · rw [if_neg c11] at H
                exact absurd H (by simp)
            · rw [if_neg c9] at H
              have c9b0 : decide (0 < x7_2) = false := decide_eq_false c9
              clear c9
              simp only [Option.some.injEq, Prod.mk.injEq] at H
              obtain ⟨rfl, rfl⟩ := H
              obtain ⟨Ao29, co29, eo29⟩ := Kd.R_slice HO_5.out
              subst eo29
              have hcz30_0 : wr.cell? ⟨gb432, 0, none⟩ = some (.int .u64 0) := (blk_cell BK432.out 0).trans rfl
              have hcz30_1 : wr.cell? ⟨gb432, 1, none⟩ = some (.slice none 0 0) := (blk_cell BK432.out 1).trans rfl
              have hfz30_0 := blk_frozen BK432.out 0
              have hfz30_1 := blk_frozen BK432.out 1
              go_wp2
              refine bodyPost_ret (results_cell_row rfl _ _ gb432 45 #[.int .u64 x0_2, .slice Ao29 x5_2.length co29] (0, 0) _ rfl (by (with_reducible repeat (first | refine blk_drewN ?_ _ | refine blk_drew ?_ | refine blk_alloc ?_ _)); refine blk_put (cs := #[.int .u64 x0_2, .slice none 0 0]) ?_ 1 _ rfl; (with_reducible repeat (first | refine blk_drewN ?_ _ | refine blk_drew ?_ | refine blk_alloc ?_ _)); refine blk_put (cs := #[.int .u64 0, .slice none 0 0]) ?_ 0 _ rfl; (with_reducible repeat (first | refine blk_drewN ?_ _ | refine blk_drew ?_ | refine blk_alloc ?_ _)); exact BK432.out) Try.underlying45 rfl (by kernel_rfl)) rfl ?_
              exact ⟨_, by first | rfl | (simp [errW_none, errW_some] <;> rfl) | (simp [*, errW_none, errW_some] <;> rfl), by (with_reducible repeat (first | apply Kd.R_alloc | apply Kd.R_drewN | apply Kd.R_drew)); exact Kd.R_mono (Kd.R_far (p := ⟨gb432, 1, none⟩) (Kd.R_far (p := ⟨gb432, 0, none⟩) (Kd.R_types HO_5.out BK432.out (by decide)) (fun _ hk => hk.2) (.int .u64 x0_2)) (fun _ hk => hk.2) (.slice Ao29 x5_2.length co29)) (fun _ hk => trivial), by repeat (first | (with_reducible first | exact HB.out | apply below_alloc | apply pw_below_drewN | apply below_drew1 | refine below_set ?_ GE432.out) | exact HB.out)⟩

end Go.Proofs.Ytaofanhdmfdlmaa.Print
