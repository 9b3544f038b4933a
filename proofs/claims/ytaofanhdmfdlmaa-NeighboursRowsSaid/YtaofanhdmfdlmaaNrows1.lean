import Derived.Test.YtaofanhdmfdlmaaNrows0
-- PRINTED by print.py (a twelfth state) out of the translation. Not trusted: Lean checks it.
namespace Go.Proofs.Ytaofanhdmfdlmaa.Print
open Go.RowKit Go.Proofs.YtaofanhdmfdlmaaW.PrintWords Go.Proofs.YtaofanhdmfdlmaaW.PrintLast Go.Proofs.YtaofanhdmfdlmaaW.PrintMore
attribute [local go_sem] max2_int min2_int max_two min_two max_three min_three max_four min_four   -- for this text's walks alone
set_option linter.unusedVariables false
set_option linter.unusedSimpArgs false

/-! ### bitrow_fresh: function 167 -/
def bitrow_fresh.f (a0 : Int) : Option (Int × List Int) := if 0 ≤ (wrap64 (Int.tdiv (wrap64 ((wrap64 (a0 + 64)) - 1)) 64)) then (if (wrap64 (Int.tdiv (wrap64 ((wrap64 (a0 + 64)) - 1)) 64) : Int).toNat ≤ 35184372088832 then (some (a0, (List.replicate (wrap64 (Int.tdiv (wrap64 ((wrap64 (a0 + 64)) - 1)) 64) : Int).toNat 0))) else (none)) else (none)
set_option maxHeartbeats 8000000 in
set_option maxRecDepth 100000 in
theorem bitrow_fresh.calls (a0 : Int) (r1 : Int) (r2 : List Int) (w : World) (h : bitrow_fresh.f a0 = some (r1, r2)) :
    Calls Try.prog 167 #[.int .i64 a0] w fun e w' => ∃ v1_ : Value, e = .returned (.agg #[.int .i64 r1, v1_]) ∧ Kd.R (Kd.int .u64) 25 w' w.heap.size (fun _ => True) v1_ r2 ∧ Below w.heap.size w w' := by
  have hu90 := Try.underlying90
  have HB := Aside0.mk (Below.refl w.heap.size w)
  have H : (if 0 ≤ (wrap64 (Int.tdiv (wrap64 ((wrap64 (a0 + 64)) - 1)) 64)) then (if (wrap64 (Int.tdiv (wrap64 ((wrap64 (a0 + 64)) - 1)) 64) : Int).toNat ≤ 35184372088832 then (some (a0, (List.replicate (wrap64 (Int.tdiv (wrap64 ((wrap64 (a0 + 64)) - 1)) 64) : Int).toNat 0))) else (none)) else (none)) = some (r1, r2) := h
  clear h
  obtain ⟨ji2, hji2⟩ : ∃ j_ : Int, (wrap64 (Int.tdiv (wrap64 ((wrap64 (a0 + 64)) - 1)) 64)) = j_ := ⟨_, rfl⟩
  replace H : (if 0 ≤ (ji2) then (if (ji2 : Int).toNat ≤ 35184372088832 then (some (a0, (List.replicate (ji2 : Int).toNat 0))) else (none)) else (none)) = some (r1, r2) := by first | (rw [hji2] at H; exact H) | (simp only [hji2] at H ⊢; exact H)
  have hji2w : (IntKind.i64.wrap (Int.tdiv (wrap64 ((wrap64 (a0 + 64)) - 1)) 64)) = ji2 := (i64_w _).trans hji2
  by_cases c3 : 0 ≤ (ji2)
  · rw [if_pos c3] at H
    have c3b0 := eq_true c3
    have c3b1 : decide (0 ≤ (ji2)) = true := decide_eq_true c3
    clear c3
    by_cases c4 : (ji2 : Int).toNat ≤ 35184372088832
    · rw [if_pos c4] at H
      have c4b0 := eq_true c4
      have c4b1 : decide ((ji2 : Int).toNat ≤ 35184372088832) = true := decide_eq_true c4
      clear c4
      obtain ⟨y743, hy743⟩ : ∃ y_ : List Int, y_ = (List.replicate (ji2 : Int).toNat 0) := ⟨_, rfl⟩
      replace H : (some (a0, y743)) = some (r1, r2) := by first | (rw [hy743]; with_reducible exact H) | (have H2_ := (Option.bind_some _ _).symm.trans H; rw [hy743]; with_reducible exact H2_) | (have H2_ := (Option.bind_some _ _).symm.trans H; with_reducible exact H2_) | with_reducible exact H | (rw [hy743]; exact H) | exact H
      have Ny743 := Aside0.mk hy743
      clear hy743
      simp only [Option.some.injEq, Prod.mk.injEq] at H
      obtain ⟨rfl, rfl⟩ := H
      go_enter Try.func167, Try.ntmps167
      go_wp2_with (first | ((with_reducible refine gate_dst (N := 2) rfl ?_); refine box_event ?hg (N := 2) ?hd (cs := #[.int .i64 0, .slice none 0 0]) (t := 90) ?hr ?_; (case hd => rfl); (case hg => rfl); (case hr => first | (go_simp; done) | (go_simp; rfl)); intro gb742 hg w5 hbox hb; have n0_ := Aside0.mk (below_step (by repeat (first | (with_reducible first | exact HB.out | apply below_alloc | apply pw_below_drewN | apply below_drew1) | exact HB.out)) hb); have n1_ := Aside0.mk (hbox); have n2_ := Aside0.mk ((by rw [hg]; exact (below_size (by repeat (first | (with_reducible first | exact HB.out | apply below_alloc | apply pw_below_drewN | apply below_drew1) | exact HB.out))) : w.heap.size ≤ gb742)); have n3_ := Aside0.mk ((by rw [hg]; exact (below_size (by repeat (first | (with_reducible first | exact HB.out | apply below_alloc | apply pw_below_drewN | apply below_drew1) | exact HB.out))) : w.heap.size ≤ gb742)); clear HB; have HB := n0_; have BK742 := n1_; have GW742 := n2_; have GE742 := n3_; clear n0_ n1_ n2_ n3_; clear hb hbox hg) | ((with_reducible refine gate_dst (N := 8) rfl ?_); refine Kd.R_make (Kd.int .u64) _ 25 rfl (N := 8) rfl 88 _ _ rfl ji2 rfl rfl Try.underlying88 (.int .u64 0) 8 info25 rfl (by decide) (by omega) 0 (ok := fun _ => True) (okp := fun _ => True) rfl (fun _ hk => hk) trivial (of_decide_eq_true (by first | (with_reducible assumption) | assumption)) (Nat.le_trans (Nat.mul_le_mul_right _ (of_decide_eq_true (by first | (with_reducible assumption) | assumption) : ji2.toNat ≤ 35184372088832)) (by omega)) (Below.refl _ _) (Nat.le_refl _) ?_; intro v744 w6 ho7 hb hg_ hnew_; clear hg_ hnew_; (first | rw [← Ny743.out] at ho7 | (simp only [Int.reduceToNat] at ho7; rw [← Ny743.out] at ho7)); have n0_ := Aside0.mk (Kd.R_lower ho7 (below_size (by repeat (first | (with_reducible first | exact HB.out | apply below_alloc | apply pw_below_drewN | apply below_drew1 | refine below_set ?_ GE742.out) | exact HB.out)))); have n1_ := Aside0.mk (blk_below (g := gb742) (o := .cells #[.int .i64 0, .slice none 0 0] 90 (0, 0)) (by (with_reducible repeat (first | refine blk_drewN ?_ _ | refine blk_drew ?_ | refine blk_alloc ?_ _)); exact BK742.out) hb); have n2_ := Aside0.mk (below_step (by repeat (first | (with_reducible first | exact HB.out | apply below_alloc | apply pw_below_drewN | apply below_drew1 | refine below_set ?_ GE742.out) | exact HB.out)) hb); clear BK742; clear HB; have HO745 := n0_; have BK742 := n1_; have HB := n2_; clear n0_ n1_ n2_; clear hb ho7; obtain ⟨Ao8, co8, eo8⟩ := Kd.R_slice HO745.out; subst eo8; have hcz9_0 : w6.cell? ⟨gb742, 0, none⟩ = some (.int .i64 0) := (blk_cell BK742.out 0).trans rfl; have hcz9_1 : w6.cell? ⟨gb742, 1, none⟩ = some (.slice none 0 0) := (blk_cell BK742.out 1).trans rfl; have hfz9_0 := blk_frozen BK742.out 0; have hfz9_1 := blk_frozen BK742.out 1))
      refine bodyPost_ret (results_cell_row rfl _ _ gb742 90 #[.int .i64 a0, .slice Ao8 y743.length co8] (0, 0) _ rfl (by (with_reducible repeat (first | refine blk_drewN ?_ _ | refine blk_drew ?_ | refine blk_alloc ?_ _)); refine blk_put (cs := #[.int .i64 a0, .slice none 0 0]) ?_ 1 _ rfl; (with_reducible repeat (first | refine blk_drewN ?_ _ | refine blk_drew ?_ | refine blk_alloc ?_ _)); refine blk_put (cs := #[.int .i64 0, .slice none 0 0]) ?_ 0 _ rfl; (with_reducible repeat (first | refine blk_drewN ?_ _ | refine blk_drew ?_ | refine blk_alloc ?_ _)); exact BK742.out) Try.underlying90 rfl (by kernel_rfl)) rfl ?_
      exact ⟨_, by first | rfl | (simp [errW_none, errW_some] <;> rfl) | (simp only [← hji2]; first | rfl | (simp [errW_none, errW_some] <;> rfl)) | (simp [*, errW_none, errW_some] <;> rfl), by (with_reducible repeat (first | apply Kd.R_alloc | apply Kd.R_drewN | apply Kd.R_drew)); exact Kd.R_mono (Kd.R_far (p := ⟨gb742, 1, none⟩) (Kd.R_far (p := ⟨gb742, 0, none⟩) (Kd.R_types HO745.out BK742.out (by decide)) (fun _ hk => hk.2) (.int .i64 a0)) (fun _ hk => hk.2) (.slice Ao8 y743.length co8)) (fun _ hk => trivial), by repeat (first | (with_reducible first | exact HB.out | apply below_alloc | apply pw_below_drewN | apply below_drew1 | refine below_set ?_ GE742.out) | exact HB.out)⟩
    · rw [if_neg c4] at H
      exact absurd H (by simp)
  · rw [if_neg c3] at H
    exact absurd H (by simp)

/-! ### bitrow_Of: function 137 -/
def bitrow_Of.l0 : Nat → Int → List Int → Int → Int → Int → List Int → Option (Int × List Int × Int)
  | 0, _, _, _, _, _, _ => none
  | k + 1, x0, x15, x16, x17, x753000, x753001 => if x17 < x16 then (if 0 ≤ x17 then (if x17 < (x15.length : Int) then (if (rd x15 x17) < 0 then (some (0, ([] : List Int), 3)) else (if (rd x15 x17) ≥ x0 then (some (0, ([] : List Int), 3)) else (if 0 ≤ (wrap64 (Int.tdiv (rd x15 x17) 64)) then (if (wrap64 (Int.tdiv (rd x15 x17) 64)) < (x753001.length : Int) then (if 0 ≤ (Int.tmod (rd x15 x17) 64) then (bitrow_Of.l0 k x0 x15 x16 (wrap64 (x17 + 1)) x753000 (x753001.set ((wrap64 (Int.tdiv (rd x15 x17) 64)) : Int).toNat (Go.bits .or .u64 (rd x753001 (wrap64 (Int.tdiv (rd x15 x17) 64))) (shl .u64 1 (Int.tmod (rd x15 x17) 64))))) else (none)) else (none)) else (none)))) else (none)) else (none)) else (some (x753000, x753001, 0))
def bitrow_Of.f (k : Nat) (a0 : Int) (l1 : List Int) : Option (Int × List Int × Int) := (bitrow_sized.f a0).bind fun t747 => (if t747 = true then ((bitrow_fresh.f a0).bind fun bt748 => (bitrow_Of.l0 k a0 l1 (l1.length : Int) 0 bt748.1 bt748.2)) else (some (0, ([] : List Int), 2)))
def bitrow_Of.T9 : Bool × List (List Nat × List Nat) := (true, [([], []), ([0], [0]), ([], []), ([2], [2]), ([1, 3], [1, 3]), ([4], [4]), ([], []), ([6], [6]), ([7], [7]), ([5, 8], [5, 8]), ([1, 3, 0, 1, 2, 3, 4, 5, 6, 7, 8, 9], [1, 3]), ([10, 9, 0, 1, 2, 3, 4, 5, 6, 7, 8, 9], [9, 10])])
def bitrow_Of.B9 : List Nat := [0, 1, 0, 4, 15, 31, 0, 64, 192, 511, 1023, 2047]
theorem bitrow_Of.tab9 : rtab .any (opsOf Try.f137 9) = bitrow_Of.T9 := by kernel_rfl
theorem bitrow_Of.bits9 : waitsOk bitrow_Of.T9.2 bitrow_Of.B9 = true := by kernel_rfl
set_option maxHeartbeats 8000000 in
set_option maxRecDepth 100000 in
theorem bitrow_Of.calls (k : Nat) (a0 : Int) (A1 : Option Addr) (c1 : Nat) (l1 : List Int) (r1 : Int) (r2 : List Int) (r3 : Int) (w : World) (hr1 : Kd.C (Kd.int .i64) w A1 l1.length l1) (hc1 : l1.length ≤ c1) (h : bitrow_Of.f k a0 l1 = some (r1, r2, r3)) :
    Calls Try.prog 137 #[.int .i64 a0, .slice A1 l1.length c1] w fun e w' => ∃ v1_ : Value, e = .returned (.tuple #[.agg #[.int .i64 r1, v1_], .int .i64 r3]) ∧ Kd.R (Kd.int .u64) 25 w' w.heap.size (fun _ => True) v1_ r2 ∧ Below w.heap.size w w' := by
  have hu90 := Try.underlying90
  have HR1 := Aside0.mk hr1
  have HC1 := Aside0.mk hc1
  clear hr1 hc1
  have HB := Aside0.mk (Below.refl w.heap.size w)
  have H : ((bitrow_sized.f a0).bind fun t747 => (if t747 = true then ((bitrow_fresh.f a0).bind fun bt748 => (bitrow_Of.l0 k a0 l1 (l1.length : Int) 0 bt748.1 bt748.2)) else (some (0, ([] : List Int), 2)))) = some (r1, r2, r3) := h
  clear h
  replace H := Option.bind_eq_some_iff.mp H
  obtain ⟨t747, A30, H⟩ := H
  replace H : (if t747 = true then ((bitrow_fresh.f a0).bind fun bt748 => (bitrow_Of.l0 k a0 l1 (l1.length : Int) 0 bt748.1 bt748.2)) else (some (0, ([] : List Int), 2))) = some (r1, r2, r3) := H
  have A3 := Aside0.mk A30
  clear A30
  by_cases c4 : t747 = true
  · subst c4
    have H1 : ((bitrow_fresh.f a0).bind fun bt748 => (bitrow_Of.l0 k a0 l1 (l1.length : Int) 0 bt748.1 bt748.2)) = some (r1, r2, r3) := by rw [if_pos rfl] at H; exact H
    clear H
    have H := H1
    clear H1
    replace H := Option.bind_eq_some_iff.mp H
    obtain ⟨⟨t748, t749⟩, A50, H⟩ := H
    replace H : (bitrow_Of.l0 k a0 l1 (l1.length : Int) 0 t748 t749) = some (r1, r2, r3) := H
    have A5 := Aside0.mk A50
    clear A50
    have H' := Aside0.mk H
    clear H
    go_enter Try.func137, Try.ntmps137
    go_wp2_with (first | ((with_reducible refine gate_dst (N := 4) rfl ?_); refine box_event ?hg (N := 4) ?hd (cs := #[.int .i64 0, .slice none 0 0]) (t := 90) ?hr ?_; (case hd => rfl); (case hg => rfl); (case hr => first | (go_simp; done) | (go_simp; rfl)); intro gb746 hg w6 hbox hb; have n0_ := Aside0.mk (below_step (by repeat (first | (with_reducible first | exact HB.out | apply below_alloc | apply pw_below_drewN | apply below_drew1) | exact HB.out)) hb); have n1_ := Aside0.mk (hbox); have n2_ := Aside0.mk ((by rw [hg]; exact (below_size (by repeat (first | (with_reducible first | exact HB.out | apply below_alloc | apply pw_below_drewN | apply below_drew1) | exact HB.out))) : w.heap.size ≤ gb746)); have n3_ := Aside0.mk ((by rw [hg]; exact (below_size (by repeat (first | (with_reducible first | exact HB.out | apply below_alloc | apply pw_below_drewN | apply below_drew1) | exact HB.out))) : w.heap.size ≤ gb746)); clear HB; have HB := n0_; have BK746 := n1_; have GW746 := n2_; have GE746 := n3_; clear n0_ n1_ n2_ n3_; clear hb hbox hg) | ((with_reducible refine gate_callee (f := 166) rfl ?_); refine goesL_ (some 10) rfl rfl Try.func166 (by kernel_rfl) rfl #[.int .i64 a0] rfl (by (try simp only [List.map_toArray, List.map_cons, List.map_nil]); first | done | rfl | (simp only [List.length_drop, List.length_take]; rfl)) ?_; (with_reducible refine (bitrow_sized.calls a0 true _ A3.out).mono ?_); rintro e w' ⟨rfl, ⟨nd, rfl⟩⟩; refine ⟨_, rfl, ?_⟩; (try (rw [drewN_self w6]; generalize hq_ : World.drewN w6 _ = w6; have n0_ : Aside0 (w6.heap[gb746]? = some (.cells #[.int .i64 0, .slice none 0 0] 90 (0, 0))) := ⟨by rw [← hq_]; exact (by (with_reducible repeat (first | refine blk_drewN ?_ _ | refine blk_drew ?_ | refine blk_alloc ?_ _)); exact BK746.out)⟩; have n1_ : Aside0 (Below w.heap.size w w6) := ⟨by rw [← hq_]; exact (by repeat (first | (with_reducible first | exact HB.out | apply below_alloc | apply pw_below_drewN | apply below_drew1 | refine below_set ?_ GE746.out) | exact HB.out))⟩; clear BK746 HB hq_; have BK746 := n0_; have HB := n1_; clear n0_ n1_))) | ((with_reducible refine gate_callee (f := 167) rfl ?_); refine goesL_ (some 14) rfl rfl Try.func167 (by kernel_rfl) rfl #[.int .i64 a0] rfl (by (try simp only [List.map_toArray, List.map_cons, List.map_nil]); first | done | rfl | (simp only [List.length_drop, List.length_take]; rfl)) ?_; (with_reducible refine (bitrow_fresh.calls a0 t748 t749 _ A5.out).mono ?_); rintro e w7 ⟨v750, rfl, ho0, hb⟩; refine ⟨_, rfl, ?_⟩; have n0_ := Aside0.mk (Kd.R_lower ho0 (below_size (by repeat (first | (with_reducible first | exact HB.out | apply below_alloc | apply pw_below_drewN | apply below_drew1 | refine below_set ?_ GE746.out) | exact HB.out)))); have n1_ := Aside0.mk (blk_below (g := gb746) (o := .cells #[.int .i64 0, .slice none 0 0] 90 (0, 0)) (by (with_reducible repeat (first | refine blk_drewN ?_ _ | refine blk_drew ?_ | refine blk_alloc ?_ _)); exact BK746.out) hb); have n2_ := Aside0.mk (below_step (by repeat (first | (with_reducible first | exact HB.out | apply below_alloc | apply pw_below_drewN | apply below_drew1 | refine below_set ?_ GE746.out) | exact HB.out)) hb); clear BK746; clear HB; have HO751 := n0_; have BK746 := n1_; have HB := n2_; clear n0_ n1_ n2_; (try clear hb); (try clear hb2); (try clear hk); (try clear hi); (try clear ho0)) | ((with_reducible refine gate_dst (N := 6) rfl ?_); refine box_event ?hg (N := 6) ?hd (cs := #[.int .i64 0, .slice none 0 0]) (t := 90) ?hr ?_; (case hd => rfl); (case hg => rfl); (case hr => first | (go_simp; done) | (go_simp; rfl)); intro gb752 hg w8 hbox hb; have n0_ := Aside0.mk (Kd.R_below (by (with_reducible repeat (first | apply Kd.R_alloc | apply Kd.R_drewN | apply Kd.R_drew)); exact HO751.out) hb); have n1_ := Aside0.mk (blk_below (g := gb746) (o := .cells #[.int .i64 0, .slice none 0 0] 90 (0, 0)) (by (with_reducible repeat (first | refine blk_drewN ?_ _ | refine blk_drew ?_ | refine blk_alloc ?_ _)); exact BK746.out) hb); have n2_ := Aside0.mk (below_step (by repeat (first | (with_reducible first | exact HB.out | apply below_alloc | apply pw_below_drewN | apply below_drew1 | refine below_set ?_ GE746.out) | exact HB.out)) hb); have n3_ := Aside0.mk (hbox); have n4_ := Aside0.mk ((by rw [hg]; exact (below_size (by repeat (first | (with_reducible first | exact HB.out | apply below_alloc | apply pw_below_drewN | apply below_drew1 | refine below_set ?_ GE746.out) | exact HB.out))) : w.heap.size ≤ gb752)); have n5_ := Aside0.mk ((by rw [hg]; exact (below_size (by repeat (first | (with_reducible first | exact HB.out | apply below_alloc | apply pw_below_drewN | apply below_drew1 | refine below_set ?_ GE746.out) | exact HB.out))) : w.heap.size ≤ gb752)); have n6_ := Aside0.mk ((by rw [hg]; exact Nat.ne_of_lt (blk_lt (g := gb746) (o := .cells #[.int .i64 0, .slice none 0 0] 90 (0, 0)) (by (with_reducible repeat (first | refine blk_drewN ?_ _ | refine blk_drew ?_ | refine blk_alloc ?_ _)); exact BK746.out)) : gb746 ≠ gb752)); have n7_ := Aside0.mk ((by rw [hg]; exact Nat.ne_of_gt (blk_lt (g := gb746) (o := .cells #[.int .i64 0, .slice none 0 0] 90 (0, 0)) (by (with_reducible repeat (first | refine blk_drewN ?_ _ | refine blk_drew ?_ | refine blk_alloc ?_ _)); exact BK746.out)) : gb752 ≠ gb746)); clear HO751; clear BK746; clear HB; have HO751 := n0_; have BK746 := n1_; have HB := n2_; have BK752 := n3_; have GW752 := n4_; have GE752 := n5_; have NB746_752 := n6_; have NB752_746 := n7_; clear n0_ n1_ n2_ n3_ n4_ n5_ n6_ n7_; clear hb hbox hg; have hnb9 := NB752_746.out; have hnc9 := NB746_752.out; have hcz10_0 : w8.cell? ⟨gb752, 0, none⟩ = some (.int .i64 0) := (blk_cell BK752.out 0).trans rfl; have hcz10_1 : w8.cell? ⟨gb752, 1, none⟩ = some (.slice none 0 0) := (blk_cell BK752.out 1).trans rfl; have hfz10_0 := blk_frozen BK752.out 0; have hfz10_1 := blk_frozen BK752.out 1; obtain ⟨Ao11, co11, eo11⟩ := Kd.R_slice HO751.out; subst eo11))
    go_loopg [17] k (fun kq v17 w' => ∃ (x17_1 : Int) (x747000_1 : Int) (x753001_1 : List Int) (u753001 : Value), v17 = .int .i64 x17_1 ∧ Aside0 (bitrow_Of.l0 kq a0 l1 (l1.length : Int) x17_1 t748 x753001_1 = some (r1, r2, r3)) ∧ Aside0 (kq ≤ k) ∧ Aside0 (Kd.R (Kd.int .u64) 25 w' w.heap.size (fun _ => True) u753001 x753001_1) ∧ Aside0 (w'.heap[gb746]? = some (.cells #[.int .i64 x747000_1, (.slice none 0 0)] 90 (0, 0))) ∧ Aside0 (w'.heap[gb752]? = some (.cells #[.int .i64 t748, u753001] 90 (0, 0))) ∧ Aside0 (Below w.heap.size w w'))
    case atStart => exact ⟨(0), (0), (t749), (.slice Ao11 t749.length co11), (by first | rfl | (simp; done) | (simp [*]; done)), H', ⟨Nat.le_refl _⟩, ⟨by (with_reducible repeat (first | apply Kd.R_alloc | apply Kd.R_drewN | apply Kd.R_drew)); exact Kd.R_mono (Kd.R_far (p := ⟨gb752, 1, none⟩) (Kd.R_far (p := ⟨gb752, 0, none⟩) (Kd.R_types HO751.out BK752.out (by decide)) (fun _ hk => hk.2) (.int .i64 t748)) (fun _ hk => hk.2) (.slice Ao11 t749.length co11)) (fun _ hk => trivial)⟩, ⟨by (with_reducible repeat (first | refine blk_drewN ?_ _ | refine blk_drew ?_ | refine blk_alloc ?_ _)); refine blk_far ?_ NB746_752.out _; (with_reducible repeat (first | refine blk_drewN ?_ _ | refine blk_drew ?_ | refine blk_alloc ?_ _)); refine blk_far ?_ NB746_752.out _; (with_reducible repeat (first | refine blk_drewN ?_ _ | refine blk_drew ?_ | refine blk_alloc ?_ _)); exact BK746.out⟩, ⟨by (with_reducible repeat (first | refine blk_drewN ?_ _ | refine blk_drew ?_ | refine blk_alloc ?_ _)); refine blk_put (cs := #[.int .i64 t748, .slice none 0 0]) ?_ 1 _ rfl; (with_reducible repeat (first | refine blk_drewN ?_ _ | refine blk_drew ?_ | refine blk_alloc ?_ _)); refine blk_put (cs := #[.int .i64 0, .slice none 0 0]) ?_ 0 _ rfl; (with_reducible repeat (first | refine blk_drewN ?_ _ | refine blk_drew ?_ | refine blk_alloc ?_ _)); exact BK752.out⟩, ⟨by repeat (first | (with_reducible first | exact HB.out | apply below_alloc | apply pw_below_drewN | apply below_drew1 | refine below_set ?_ GE746.out | refine below_set ?_ GE752.out) | exact HB.out)⟩⟩
    case round =>
      clear H'
      try clear c1
      try clear p2
      try clear c4
      try clear c9
      try clear hcz10_0
      try clear hcz10_1
      try clear hfz10_0
      try clear hfz10_1
      obtain ⟨x17_1, x747000_1, x753001_1, u753001, rfl, HA, HK1, HO_753001, BK746, BK752, HB⟩ := hrel
      cases gk with
      | zero => exact absurd HA.out (by simp [bitrow_Of.l0])
      | succ k1 =>
        have H := HA.out
        clear HA
        simp only [bitrow_Of.l0] at H
        by_cases c12 : x17_1 < (l1.length : Int)
        · rw [if_pos c12] at H
          have c12b0 : decide (x17_1 < (l1.length : Int)) = true := decide_eq_true c12
          clear c12
          by_cases c13 : 0 ≤ x17_1
          · rw [if_pos c13] at H
            have c13b0 : decide (0 ≤ x17_1) = true := decide_eq_true c13
            clear c13
            by_cases c14 : x17_1 < (l1.length : Int)
            · rw [if_pos c14] at H
              have c14b0 : decide (x17_1 < (l1.length : Int)) = true := decide_eq_true c14
              clear c14
              by_cases c15 : (rd l1 x17_1) < 0
              · rw [if_pos c15] at H
                have c15b0 : decide ((rd l1 x17_1) < 0) = true := decide_eq_true c15
                clear c15
                simp only [Option.some.injEq, Prod.mk.injEq] at H
                obtain ⟨rfl, rfl, rfl⟩ := H
                have p753 : 0 ≤ (x17_1 : Int) := of_decide_eq_true (by first | (with_reducible assumption) | assumption)
                have q753 : x17_1 < (l1.length : Int) := of_decide_eq_true (by first | (with_reducible assumption) | assumption)
                obtain ⟨ad753, e753, hx753_0⟩ := Kd.at_int HR1.out x17_1 p753 q753
                cases e753
                replace hx753_0 := (HB.out.cell (World.block_lt_of_cell? w _ hx753_0)).trans hx753_0
                replace p753 := eq_true p753
                replace q753 := eq_true q753
                have hnb16 := NB746_752.out
                have hnc16 := NB752_746.out
                have hcz17_0 : wr.cell? ⟨gb746, 0, none⟩ = some (.int .i64 x747000_1) := (blk_cell BK746.out 0).trans rfl
                have hcz17_1 : wr.cell? ⟨gb746, 1, none⟩ = some (.slice none 0 0) := (blk_cell BK746.out 1).trans rfl
                have hfz17_0 := blk_frozen BK746.out 0
                have hfz17_1 := blk_frozen BK746.out 1
                go_wp2
                refine bodyPost_ret (results_ct rfl _ _ gb746 90 #[.int .i64 0, .slice none 0 0] (0, 0) _ rfl (by (with_reducible repeat (first | refine blk_drewN ?_ _ | refine blk_drew ?_ | refine blk_alloc ?_ _)); refine blk_put (cs := #[.int .i64 0, .slice none 0 0]) ?_ 1 _ rfl; (with_reducible repeat (first | refine blk_drewN ?_ _ | refine blk_drew ?_ | refine blk_alloc ?_ _)); refine blk_put (cs := #[.int .i64 x747000_1, .slice none 0 0]) ?_ 0 _ rfl; (with_reducible repeat (first | refine blk_drewN ?_ _ | refine blk_drew ?_ | refine blk_alloc ?_ _)); exact BK746.out) Try.underlying90 rfl (by kernel_rfl)) rfl ?_
                exact ⟨_, by first | rfl | (simp [errW_none, errW_some] <;> rfl) | (simp [*, errW_none, errW_some] <;> rfl), by first | exact Kd.R_nil _ _ _ _ _ | exact Kd.N_nil _ _ _ _ _ | exact Kd.V_nil _ _ _ _ _ | exact Kd.Q_nil _ _ _ _ _ | exact Kd.S_nil _ _ _ _ _, by repeat (first | (with_reducible first | exact HB.out | apply below_alloc | apply pw_below_drewN | apply below_drew1 | refine below_set ?_ GE746.out | refine below_set ?_ GE752.out) | exact HB.out)⟩
              · rw [if_neg c15] at H
                have c15b0 : decide ((rd l1 x17_1) < 0) = false := decide_eq_false c15
                clear c15
                by_cases c18 : (rd l1 x17_1) ≥ a0
                · rw [if_pos c18] at H
                  have c18b0 : decide (a0 ≤ (rd l1 x17_1)) = true := decide_eq_true c18
                  clear c18
                  simp only [Option.some.injEq, Prod.mk.injEq] at H
                  obtain ⟨rfl, rfl, rfl⟩ := H
                  have p753 : 0 ≤ (x17_1 : Int) := of_decide_eq_true (by first | (with_reducible assumption) | assumption)
                  have q753 : x17_1 < (l1.length : Int) := of_decide_eq_true (by first | (with_reducible assumption) | assumption)
                  obtain ⟨ad753, e753, hx753_0⟩ := Kd.at_int HR1.out x17_1 p753 q753
                  cases e753
                  replace hx753_0 := (HB.out.cell (World.block_lt_of_cell? w _ hx753_0)).trans hx753_0
                  replace p753 := eq_true p753
                  replace q753 := eq_true q753
                  have hnb19 := NB746_752.out
                  have hnc19 := NB752_746.out
                  have hcz20_0 : wr.cell? ⟨gb746, 0, none⟩ = some (.int .i64 x747000_1) := (blk_cell BK746.out 0).trans rfl
                  have hcz20_1 : wr.cell? ⟨gb746, 1, none⟩ = some (.slice none 0 0) := (blk_cell BK746.out 1).trans rfl
                  have hfz20_0 := blk_frozen BK746.out 0
                  have hfz20_1 := blk_frozen BK746.out 1
                  go_wp2
                  refine bodyPost_ret (results_ct rfl _ _ gb746 90 #[.int .i64 0, .slice none 0 0] (0, 0) _ rfl (by (with_reducible repeat (first | refine blk_drewN ?_ _ | refine blk_drew ?_ | refine blk_alloc ?_ _)); refine blk_put (cs := #[.int .i64 0, .slice none 0 0]) ?_ 1 _ rfl; (with_reducible repeat (first | refine blk_drewN ?_ _ | refine blk_drew ?_ | refine blk_alloc ?_ _)); refine blk_put (cs := #[.int .i64 x747000_1, .slice none 0 0]) ?_ 0 _ rfl; (with_reducible repeat (first | refine blk_drewN ?_ _ | refine blk_drew ?_ | refine blk_alloc ?_ _)); exact BK746.out) Try.underlying90 rfl (by kernel_rfl)) rfl ?_
                  exact ⟨_, by first | rfl | (simp [errW_none, errW_some] <;> rfl) | (simp [*, errW_none, errW_some] <;> rfl), by first | exact Kd.R_nil _ _ _ _ _ | exact Kd.N_nil _ _ _ _ _ | exact Kd.V_nil _ _ _ _ _ | exact Kd.Q_nil _ _ _ _ _ | exact Kd.S_nil _ _ _ _ _, by repeat (first | (with_reducible first | exact HB.out | apply below_alloc | apply pw_below_drewN | apply below_drew1 | refine below_set ?_ GE746.out | refine below_set ?_ GE752.out) | exact HB.out)⟩
                · rw [if_neg c18] at H
                  have c18b0 : decide (a0 ≤ (rd l1 x17_1)) = false := decide_eq_false c18
                  clear c18
                  obtain ⟨ji21, hji21⟩ : ∃ j_ : Int, (wrap64 (Int.tdiv (rd l1 x17_1) 64)) = j_ := ⟨_, rfl⟩
                  replace H : (if 0 ≤ (ji21) then (if (ji21) < (x753001_1.length : Int) then (if 0 ≤ (Int.tmod (rd l1 x17_1) 64) then (bitrow_Of.l0 k1 a0 l1 (l1.length : Int) (wrap64 (x17_1 + 1)) t748 (x753001_1.set ((ji21) : Int).toNat (Go.bits .or .u64 (rd x753001_1 (ji21)) (shl .u64 1 (Int.tmod (rd l1 x17_1) 64))))) else (none)) else (none)) else (none)) = some (r1, r2, r3) := by first | (rw [hji21] at H; exact H) | (simp only [hji21] at H ⊢; exact H)
                  have hji21w : (IntKind.i64.wrap (Int.tdiv (rd l1 x17_1) 64)) = ji21 := (i64_w _).trans hji21
                  by_cases c22 : 0 ≤ (ji21)
                  · rw [if_pos c22] at H
                    have c22b0 : decide (0 ≤ (ji21)) = true := decide_eq_true c22
                    clear c22
                    by_cases c23 : (ji21) < (x753001_1.length : Int)
                    · rw [if_pos c23] at H
                      have c23b0 : decide ((ji21) < (x753001_1.length : Int)) = true := decide_eq_true c23
                      clear c23
                      obtain ⟨ji24, hji24⟩ : ∃ j_ : Int, (Int.tmod (rd l1 x17_1) 64) = j_ := ⟨_, rfl⟩
                      replace H : (if 0 ≤ (ji24) then (bitrow_Of.l0 k1 a0 l1 (l1.length : Int) (wrap64 (x17_1 + 1)) t748 (x753001_1.set ((ji21) : Int).toNat (Go.bits .or .u64 (rd x753001_1 (ji21)) (shl .u64 1 (ji24))))) else (none)) = some (r1, r2, r3) := by first | (rw [hji24] at H; exact H) | (simp only [hji24] at H ⊢; exact H)
                      by_cases c25 : 0 ≤ (ji24)
                      · rw [if_pos c25] at H
                        have c25b0 := eq_true c25
                        have c25b1 : decide (0 ≤ (ji24)) = true := decide_eq_true c25
                        clear c25
                        obtain ⟨ji26, hji26⟩ : ∃ j_ : Int, (shl .u64 1 (ji24)) = j_ := ⟨_, rfl⟩
                        replace H : (bitrow_Of.l0 k1 a0 l1 (l1.length : Int) (wrap64 (x17_1 + 1)) t748 (x753001_1.set ((ji21) : Int).toNat (Go.bits .or .u64 (rd x753001_1 (ji21)) (ji26)))) = some (r1, r2, r3) := by first | (rw [hji26] at H; exact H) | (simp only [hji26] at H ⊢; exact H)
                        have hji26_ : (IntKind.u64.wrap (1 * 2 ^ min (ji24).toNat 64)) = ji26 := hji26
                        have hji26z : (ji24) ≤ 64 → (IntKind.u64.wrap (1 * 2 ^ (ji24).toNat)) = ji26 := shl_small hji26
                        have hji26u : (IntKind.u64.wrap (2 ^ min (ji24).toNat 64)) = ji26 := by have h_ := hji26_; rw [Int.one_mul] at h_; exact h_
                        have hji26v : (ji24) ≤ 64 → (IntKind.u64.wrap (2 ^ (ji24).toNat)) = ji26 := fun hle_ => by have h_ := hji26z hle_; rw [Int.one_mul] at h_; exact h_
                        obtain ⟨y755, hy755⟩ : ∃ y_ : List Int, y_ = (x753001_1.set ((ji21) : Int).toNat (Go.bits .or .u64 (rd x753001_1 (ji21)) (ji26))) := ⟨_, rfl⟩
                        replace H : (bitrow_Of.l0 k1 a0 l1 (l1.length : Int) (wrap64 (x17_1 + 1)) t748 y755) = some (r1, r2, r3) := by first | (rw [hy755]; with_reducible exact H) | (have H2_ := (Option.bind_some _ _).symm.trans H; rw [hy755]; with_reducible exact H2_) | (have H2_ := (Option.bind_some _ _).symm.trans H; with_reducible exact H2_) | with_reducible exact H | (rw [hy755]; exact H) | exact H
                        have Ny755 := Aside0.mk hy755
                        clear hy755
                        have H' := Aside0.mk H
                        clear H
                        have p753 : 0 ≤ (x17_1 : Int) := of_decide_eq_true (by first | (with_reducible assumption) | assumption)
                        have q753 : x17_1 < (l1.length : Int) := of_decide_eq_true (by first | (with_reducible assumption) | assumption)
                        obtain ⟨ad753, e753, hx753_0⟩ := Kd.at_int HR1.out x17_1 p753 q753
                        cases e753
                        replace hx753_0 := (HB.out.cell (World.block_lt_of_cell? w _ hx753_0)).trans hx753_0
                        replace p753 := eq_true p753
                        replace q753 := eq_true q753
                        try go_wp2
                        have n0_ := Aside0.mk (Kd.R_drew HO_753001.out)
                        have n1_ := Aside0.mk (blk_drew BK746.out)
                        have n2_ := Aside0.mk (blk_drew BK752.out)
                        have n3_ := Aside0.mk (below_drew1 HB.out)
                        clear HO_753001
                        clear BK746
                        clear BK752
                        clear HB
                        have HO_753001 := n0_
                        have BK746 := n1_
                        have BK752 := n2_
                        have HB := n3_
                        clear n0_ n1_ n2_ n3_
                        obtain ⟨Ao29, co29, eo29⟩ := Kd.R_slice HO_753001.out
                        (first | subst eo29 | (injection eo29 with f1_ f2_ f3_; have f4_ := f1_.symm; have f5_ := f3_.symm; clear f1_ f2_ f3_; subst f4_; subst f5_))
                        have p754 : 0 ≤ ((ji21) : Int) := of_decide_eq_true (by first | (with_reducible assumption) | assumption)
                        have q754 : (ji21) < (x753001_1.length : Int) := of_decide_eq_true (by first | (with_reducible assumption) | assumption)
                        obtain ⟨ad754, e754, hx754_0⟩ := Kd.at_int (Kd.R_reads' HO_753001.out).2.2 (ji21) p754 q754
                        cases e754
                        replace p754 := eq_true p754
                        replace q754 := eq_true q754
                        have p27 : 0 ≤ ((ji21) : Int) := of_decide_eq_true (by first | (with_reducible assumption) | assumption)
                        have q27 : ((ji21) : Int) < ((x753001_1.length : Int) : Int) := of_decide_eq_true (by first | (with_reducible assumption) | assumption)
                        obtain ⟨go27, co27, eo27, gb27, gl27, cl27, HG27⟩ := Kd.R_form HO_753001.out (by omega)
                        (first | cases eo27 | (injection eo27 with ea_ en_ ec_; (first | subst ea_ | (injection ea_ with ea_; subst ea_)); subst ec_; clear en_))
                        have GB27 := Aside0.mk gb27
                        have GG27 := Aside0.mk HG27
                        clear gb27 gl27 HG27
                        (first | simp only [add_plain] at hx754_0 | skip)
                        obtain ⟨hx27_0, hf27_0⟩ := Kd.R_celln 0 HO_753001.out ((ji21) : Int) p27 q27
                        replace p27 := eq_true p27
                        replace q27 := eq_true q27
                        have HP30 := Kd.R_putn HO_753001.out ((ji21) : Int) (Go.bits .or .u64 (rd x753001_1 (ji21)) (ji26))
                        rw [← Ny755.out] at HP30
                        have HQ30 := Aside0.mk HP30
                        clear HP30
                        refine start_ (n := 12) (S := fun w' => w'.cell? ⟨gb752, 0, none⟩ = some (.int .i64 t748) ∧ w'.cell? ⟨gb752, 1, none⟩ = some (.slice (some ⟨go27, 0, none⟩) x753001_1.length co29) ∧ w'.cell? ⟨go27, ((ji21)).toNat, none⟩ = some (.int .u64 (rd x753001_1 (ji21)))) (ds := [11]) #[false, false, false, false, false, false, false, false, false, false, false, false] (by kernel_rfl) rfl rfl ⟨(blk_cell BK752.out 0).trans rfl, (blk_cell BK752.out 1).trans rfl, hx754_0⟩ (fun hHeld => ?_); refine with_tabW bitrow_Of.tab9 bitrow_Of.bits9 (fun HT_ HW_ => ?_)
                        generalize wr.drew = w28 at HO_753001 BK746 BK752 HB GG27 HQ30 hf27_0 hx27_0 hx754_0 hHeld ⊢
                        refine pure_ (i := 0) (N := some 29) (v := ?_) (a' := ?_) #[true, false, false, false, false, false, false, false, false, false, false, false] rfl rfl (any_of HT_.out (by kernel_rfl)) (fun _ _ _ h => h) (Or.inl ⟨by rfl, ?_⟩) ?_ ?_
                        rotate_left
                        · intro w'
                          go_simp
                          with_reducible rfl
                        rotate_left
                        · simp only [Act.put, List.setIfInBounds_toArray, List.set_cons_zero, List.set_cons_succ, i64_w, i32_w]
                          rfl
                        refine pure_ (i := 2) (N := some 31) (v := ?_) (a' := ?_) #[true, false, true, false, false, false, false, false, false, false, false, false] rfl rfl (any_of HT_.out (by kernel_rfl)) (fun _ _ _ h => h) (Or.inl ⟨by rfl, ?_⟩) ?_ ?_
                        rotate_left
                        · intro w'
                          go_simp
                          with_reducible rfl
                        rotate_left
                        · simp only [Act.put, List.setIfInBounds_toArray, List.set_cons_zero, List.set_cons_succ, i64_w, i32_w]
                          rfl
                        refine pure_ (i := 3) (N := some 32) (v := ?_) (a' := ?_) #[true, false, true, true, false, false, false, false, false, false, false, false] rfl rfl (any_of HT_.out (by kernel_rfl)) (fun _ _ _ h => h) (Or.inl ⟨by rfl, ?_⟩) ?_ ?_
                        rotate_left
                        · intro w'
                          go_simp
                          with_reducible rfl
                        rotate_left
                        · simp only [Act.put, List.setIfInBounds_toArray, List.set_cons_zero, List.set_cons_succ, i64_w, i32_w]
                          rfl
                        refine pure_ (i := 6) (N := some 35) (v := ?_) (a' := ?_) #[true, false, true, true, false, false, true, false, false, false, false, false] rfl rfl (any_of HT_.out (by kernel_rfl)) (fun _ _ _ h => h) (Or.inl ⟨by rfl, ?_⟩) ?_ ?_
                        rotate_left
                        · intro w'
                          go_simp
                          with_reducible rfl
                        rotate_left
                        · simp only [Act.put, List.setIfInBounds_toArray, List.set_cons_zero, List.set_cons_succ, i64_w, i32_w]
                          rfl
                        refine pure_ (i := 7) (N := some 36) (v := ?_) (a' := ?_) #[true, false, true, true, false, false, true, true, false, false, false, false] rfl rfl (any_of HT_.out (by kernel_rfl)) (fun _ _ _ h => h) (Or.inl ⟨by rfl, ?_⟩) ?_ ?_
                        rotate_left
                        · intro w'
                          go_simp
                          with_reducible rfl
                        rotate_left
                        · simp only [Act.put, List.setIfInBounds_toArray, List.set_cons_zero, List.set_cons_succ, i64_w, i32_w]
                          rfl
                        refine pure_ (i := 8) (N := some 37) (v := ?_) (a' := ?_) #[true, false, true, true, false, false, true, true, true, false, false, false] rfl rfl (any_of HT_.out (by kernel_rfl)) (fun _ _ _ h => h) (Or.inl ⟨by rfl, ?_⟩) ?_ ?_
                        rotate_left
                        · intro w'
                          go_simp
                          with_reducible rfl
                        rotate_left
                        · simp only [Act.put, List.setIfInBounds_toArray, List.set_cons_zero, List.set_cons_succ, i64_w, i32_w]
                          rfl
                        refine take_ (i := 1) (N := some 30) (v := ?_) (a' := ?_) #[true, true, true, true, false, false, true, true, true, false, false, false] rfl rfl (take_ofW HT_.out HW_.out (by kernel_rfl)) (fun _ _ _ h => h) (Or.inl ⟨by rfl, ?_⟩) hHeld ?_ ?_
                        rotate_left
                        · rintro w' ⟨s0, s1, s2⟩
                          go_simp
                          with_reducible rfl
                        rotate_left
                        · simp only [Act.put, List.setIfInBounds_toArray, List.set_cons_zero, List.set_cons_succ, i64_w, i32_w]
                          rfl
                        refine pure_ (i := 4) (N := some 33) (v := ?_) (a' := ?_) #[true, true, true, true, true, false, true, true, true, false, false, false] rfl rfl (any_of HT_.out (by kernel_rfl)) (fun _ _ _ h => h) (Or.inl ⟨by rfl, ?_⟩) ?_ ?_
                        rotate_left
                        · intro w'
                          go_simp
                          with_reducible rfl
                        rotate_left
                        · simp only [Act.put, List.setIfInBounds_toArray, List.set_cons_zero, List.set_cons_succ, i64_w, i32_w]
                          rfl
                        refine take_ (i := 5) (N := some 34) (v := ?_) (a' := ?_) #[true, true, true, true, true, true, true, true, true, false, false, false] rfl rfl (take_ofW HT_.out HW_.out (by kernel_rfl)) (fun _ _ _ h => h) (Or.inl ⟨by rfl, ?_⟩) hHeld ?_ ?_
                        rotate_left
                        · rintro w' ⟨s0, s1, s2⟩
                          go_simp
                          with_reducible rfl
                        rotate_left
                        · simp only [Act.put, List.setIfInBounds_toArray, List.set_cons_zero, List.set_cons_succ, i64_w, i32_w]
                          rfl
                        refine pure_ (i := 9) (N := some 38) (v := ?_) (a' := ?_) #[true, true, true, true, true, true, true, true, true, true, false, false] rfl rfl (any_of HT_.out (by kernel_rfl)) (fun _ _ _ h => h) (Or.inl ⟨by rfl, ?_⟩) ?_ ?_
                        rotate_left
                        · intro w'
                          go_simp
                          with_reducible rfl
                        rotate_left
                        · simp only [Act.put, List.setIfInBounds_toArray, List.set_cons_zero, List.set_cons_succ, i64_w, i32_w]
                          rfl
                        refine pure_ (i := 10) (N := some 39) (v := ?_) (a' := ?_) #[true, true, true, true, true, true, true, true, true, true, true, false] rfl rfl (any_of HT_.out (by kernel_rfl)) (fun _ _ _ h => h) (Or.inl ⟨by rfl, ?_⟩) ?_ ?_
                        rotate_left
                        · intro w'
                          go_simp
                          with_reducible rfl
                        rotate_left
                        · simp only [Act.put, List.setIfInBounds_toArray, List.set_cons_zero, List.set_cons_succ, i64_w, i32_w]
                          rfl
                        refine last_ (i := 11) (N := none) #[true, true, true, true, true, true, true, true, true, true, true, true] rfl rfl (one_of HT_.out (by kernel_rfl)) (by decide) (fun K hK => ?_)
                        refine skip_ (w1 := ?_) (by rfl) rfl ?_ ?_
                        rotate_left
                        · go_simp
                          rfl
                        refine hK.out _ _ ?_
                        clear hK K
                        refine done_ (done_of HT_.out (by kernel_rfl)) ?_
                        try go_wp2
                        go_roundg k1
                        case measure => have := HK1.out; omega
                        case rel => exact ⟨(wrap64 (x17_1 + 1)), (x747000_1), (y755), (.slice (some ⟨go27, 0, none⟩) x753001_1.length co29), (by first | rfl | (simp; done) | (simp [*]; done)), H', ⟨by have := HK1.out; omega⟩, ⟨by (with_reducible repeat (first | apply Kd.R_alloc | apply Kd.R_drewN | apply Kd.R_drew)); exact HQ30.out⟩, ⟨by (with_reducible repeat (first | refine blk_drewN ?_ _ | refine blk_drew ?_ | refine blk_alloc ?_ _)); refine blk_far ?_ (by have h_ := Kd.R_ne HO_753001.out BK746.out (by decide); intro e_; exact h_ (by rw [e_]; rfl)) _; (with_reducible repeat (first | refine blk_drewN ?_ _ | refine blk_drew ?_ | refine blk_alloc ?_ _)); exact BK746.out⟩, ⟨by (with_reducible repeat (first | refine blk_drewN ?_ _ | refine blk_drew ?_ | refine blk_alloc ?_ _)); refine blk_far ?_ (by have h_ := Kd.R_ne HO_753001.out BK752.out (by decide); intro e_; exact h_ (by rw [e_]; rfl)) _; (with_reducible repeat (first | refine blk_drewN ?_ _ | refine blk_drew ?_ | refine blk_alloc ?_ _)); exact BK752.out⟩, ⟨by repeat (first | (with_reducible first | exact HB.out | apply below_alloc | apply pw_below_drewN | apply below_drew1 | refine below_set ?_ GB27.out | refine below_set ?_ GE746.out | refine below_set ?_ GE752.out) | exact HB.out)⟩⟩
                      · rw [if_neg c25] at H
                        exact absurd H (by simp)
                    · rw [if_neg c23] at H
                      exact absurd H (by simp)
                  · rw [if_neg c22] at H
                    exact absurd H (by simp)
            · rw [if_neg c14] at H
              exact absurd H (by simp)
          · rw [if_neg c13] at H
            exact absurd H (by simp)
        · rw [if_neg c12] at H
          have c12b0 : decide (x17_1 < (l1.length : Int)) = false := decide_eq_false c12
          clear c12
          simp only [Option.some.injEq, Prod.mk.injEq] at H
          obtain ⟨rfl, rfl, rfl⟩ := H
          have hnb31 := NB752_746.out
          have hnc31 := NB746_752.out
          have hcz32_0 : wr.cell? ⟨gb752, 0, none⟩ = some (.int .i64 t748) := (blk_cell BK752.out 0).trans rfl
          have hcz32_1 : wr.cell? ⟨gb752, 1, none⟩ = some (u753001) := (blk_cell BK752.out 1).trans rfl
          have hfz32_0 := blk_frozen BK752.out 0
          have hfz32_1 := blk_frozen BK752.out 1
          have hcz33_0 : wr.cell? ⟨gb746, 0, none⟩ = some (.int .i64 x747000_1) := (blk_cell BK746.out 0).trans rfl
          have hcz33_1 : wr.cell? ⟨gb746, 1, none⟩ = some (.slice none 0 0) := (blk_cell BK746.out 1).trans rfl
          have hfz33_0 := blk_frozen BK746.out 0
          have hfz33_1 := blk_frozen BK746.out 1
          obtain ⟨Ao34, co34, eo34⟩ := Kd.R_slice HO_753001.out
          subst eo34
          go_wp2
          refine bodyPost_ret (results_ct rfl _ _ gb746 90 #[.int .i64 t748, .slice Ao34 x753001_1.length co34] (0, 0) _ rfl (by (with_reducible repeat (first | refine blk_drewN ?_ _ | refine blk_drew ?_ | refine blk_alloc ?_ _)); refine blk_put (cs := #[.int .i64 t748, .slice none 0 0]) ?_ 1 _ rfl; (with_reducible repeat (first | refine blk_drewN ?_ _ | refine blk_drew ?_ | refine blk_alloc ?_ _)); refine blk_put (cs := #[.int .i64 x747000_1, .slice none 0 0]) ?_ 0 _ rfl; (with_reducible repeat (first | refine blk_drewN ?_ _ | refine blk_drew ?_ | refine blk_alloc ?_ _)); exact BK746.out) Try.underlying90 rfl (by kernel_rfl)) rfl ?_
          exact ⟨_, by first | rfl | (simp [errW_none, errW_some] <;> rfl) | (simp [*, errW_none, errW_some] <;> rfl), by (with_reducible repeat (first | apply Kd.R_alloc | apply Kd.R_drewN | apply Kd.R_drew)); exact Kd.R_mono (Kd.R_far (p := ⟨gb746, 1, none⟩) (Kd.R_far (p := ⟨gb746, 0, none⟩) (Kd.R_types HO_753001.out BK746.out (by decide)) (fun _ hk => hk.2) (.int .i64 t748)) (fun _ hk => hk.2) (.slice Ao34 x753001_1.length co34)) (fun _ hk => trivial), by repeat (first | (with_reducible first | exact HB.out | apply below_alloc | apply pw_below_drewN | apply below_drew1 | refine below_set ?_ GE746.out | refine below_set ?_ GE752.out) | exact HB.out)⟩
  · replace c4 := Bool.eq_false_iff.mpr c4
    subst c4
    have H1 : (some (0, ([] : List Int), 2)) = some (r1, r2, r3) := by rw [if_neg (show ¬ (false = true) by decide)] at H; exact H
    clear H
    have H := H1
    clear H1
    simp only [Option.some.injEq, Prod.mk.injEq] at H
    obtain ⟨rfl, rfl, rfl⟩ := H
    go_enter Try.func137, Try.ntmps137
    go_wp2_with (first | ((with_reducible refine gate_dst (N := 4) rfl ?_); refine box_event ?hg (N := 4) ?hd (cs := #[.int .i64 0, .slice none 0 0]) (t := 90) ?hr ?_; (case hd => rfl); (case hg => rfl); (case hr => first | (go_simp; done) | (go_simp; rfl)); intro gb746 hg w35 hbox hb; have n0_ := Aside0.mk (below_step (by repeat (first | (with_reducible first | exact HB.out | apply below_alloc | apply pw_below_drewN | apply below_drew1) | exact HB.out)) hb); have n1_ := Aside0.mk (hbox); have n2_ := Aside0.mk ((by rw [hg]; exact (below_size (by repeat (first | (with_reducible first | exact HB.out | apply below_alloc | apply pw_below_drewN | apply below_drew1) | exact HB.out))) : w.heap.size ≤ gb746)); have n3_ := Aside0.mk ((by rw [hg]; exact (below_size (by repeat (first | (with_reducible first | exact HB.out | apply below_alloc | apply pw_below_drewN | apply below_drew1) | exact HB.out))) : w.heap.size ≤ gb746)); clear HB; have HB := n0_; have BK746 := n1_; have GW746 := n2_; have GE746 := n3_; clear n0_ n1_ n2_ n3_; clear hb hbox hg) | ((with_reducible refine gate_callee (f := 166) rfl ?_); refine goesL_ (some 10) rfl rfl Try.func166 (by kernel_rfl) rfl #[.int .i64 a0] rfl (by (try simp only [List.map_toArray, List.map_cons, List.map_nil]); first | done | rfl | (simp only [List.length_drop, List.length_take]; rfl)) ?_; (with_reducible refine (bitrow_sized.calls a0 false _ A3.out).mono ?_); rintro e w' ⟨rfl, ⟨nd, rfl⟩⟩; refine ⟨_, rfl, ?_⟩; (try (rw [drewN_self w35]; generalize hq_ : World.drewN w35 _ = w35; have n0_ : Aside0 (w35.heap[gb746]? = some (.cells #[.int .i64 0, .slice none 0 0] 90 (0, 0))) := ⟨by rw [← hq_]; exact (by (with_reducible repeat (first | refine blk_drewN ?_ _ | refine blk_drew ?_ | refine blk_alloc ?_ _)); exact BK746.out)⟩; have n1_ : Aside0 (Below w.heap.size w w35) := ⟨by rw [← hq_]; exact (by repeat (first | (with_reducible first | exact HB.out | apply below_alloc | apply pw_below_drewN | apply below_drew1 | refine below_set ?_ GE746.out) | exact HB.out))⟩; clear BK746 HB hq_; have BK746 := n0_; have HB := n1_; clear n0_ n1_)); have hcz36_0 : w35.cell? ⟨gb746, 0, none⟩ = some (.int .i64 0) := (blk_cell BK746.out 0).trans rfl; have hcz36_1 : w35.cell? ⟨gb746, 1, none⟩ = some (.slice none 0 0) := (blk_cell BK746.out 1).trans rfl; have hfz36_0 := blk_frozen BK746.out 0; have hfz36_1 := blk_frozen BK746.out 1))
    refine bodyPost_ret (results_ct rfl _ _ gb746 90 #[.int .i64 0, .slice none 0 0] (0, 0) _ rfl (by (with_reducible repeat (first | refine blk_drewN ?_ _ | refine blk_drew ?_ | refine blk_alloc ?_ _)); refine blk_put (cs := #[.int .i64 0, .slice none 0 0]) ?_ 1 _ rfl; (with_reducible repeat (first | refine blk_drewN ?_ _ | refine blk_drew ?_ | refine blk_alloc ?_ _)); refine blk_put (cs := #[.int .i64 0, .slice none 0 0]) ?_ 0 _ rfl; (with_reducible repeat (first | refine blk_drewN ?_ _ | refine blk_drew ?_ | refine blk_alloc ?_ _)); exact BK746.out) Try.underlying90 rfl (by kernel_rfl)) rfl ?_
    exact ⟨_, by first | rfl | (simp [errW_none, errW_some] <;> rfl) | (simp [*, errW_none, errW_some] <;> rfl), by first | exact Kd.R_nil _ _ _ _ _ | exact Kd.N_nil _ _ _ _ _ | exact Kd.V_nil _ _ _ _ _ | exact Kd.Q_nil _ _ _ _ _ | exact Kd.S_nil _ _ _ _ _, by repeat (first | (with_reducible first | exact HB.out | apply below_alloc | apply pw_below_drewN | apply below_drew1 | refine below_set ?_ GE746.out) | exact HB.out)⟩

/-! ### downpourref01_Same: function 56 -/
mutual
def downpourref01_Same.j0 : Nat → Bool → Int → List Int → Int → List Int → Option (Bool)
  | 0, _, _, _, _, _ => none
  | k + 1, x19, x784000, x784001, x785000, x785001 => if x19 = true then (some false) else (downpourref01_Same.l0 k (x784001.length : Int) 0 x784000 x784001 x785000 x785001)
def downpourref01_Same.l0 : Nat → Int → Int → Int → List Int → Int → List Int → Option (Bool)
  | 0, _, _, _, _, _, _ => none
  | k + 1, x22, x23, x784000, x784001, x785000, x785001 => if x23 < x22 then (if 0 ≤ x23 then (if x23 < (x784001.length : Int) then (if x23 < (x785001.length : Int) then (if (rd x784001 x23) = (rd x785001 x23) then (downpourref01_Same.l0 k x22 (wrap64 (x23 + 1)) x784000 x784001 x785000 x785001) else (some false)) else (none)) else (none)) else (none)) else (some true)
end
def downpourref01_Same.f (k : Nat) (a0_0 : Int) (l0_1 : List Int) (a1_0 : Int) (l1_1 : List Int) : Option (Bool) := if a0_0 = a1_0 then (downpourref01_Same.j0 k ((l0_1.length : Int) != (l1_1.length : Int)) a0_0 l0_1 a1_0 l1_1) else (downpourref01_Same.j0 k true a0_0 l0_1 a1_0 l1_1)
set_option maxHeartbeats 8000000 in
set_option maxRecDepth 100000 in
theorem downpourref01_Same.calls (k : Nat) (a0_0 : Int) (A0_1 : Option Addr) (c0_1 : Nat) (l0_1 : List Int) (a1_0 : Int) (A1_1 : Option Addr) (c1_1 : Nat) (l1_1 : List Int) (r : Bool) (w : World) (hr0_1 : Kd.C (Kd.int .u64) w A0_1 l0_1.length l0_1) (hc0_1 : l0_1.length ≤ c0_1) (hr1_1 : Kd.C (Kd.int .u64) w A1_1 l1_1.length l1_1) (hc1_1 : l1_1.length ≤ c1_1) (h : downpourref01_Same.f k a0_0 l0_1 a1_0 l1_1 = some r) :
    Calls Try.prog 56 #[.agg #[.int .i64 a0_0, .slice A0_1 l0_1.length c0_1], .agg #[.int .i64 a1_0, .slice A1_1 l1_1.length c1_1]] w fun e w' => e = .returned (.bool r) ∧ Below w.heap.size w w' := by
  have hu90 := Try.underlying90
  have HR0_1 := Aside0.mk hr0_1
  have HC0_1 := Aside0.mk hc0_1
  clear hr0_1 hc0_1
  have HR1_1 := Aside0.mk hr1_1
  have HC1_1 := Aside0.mk hc1_1
  clear hr1_1 hc1_1
  have HB := Aside0.mk (Below.refl w.heap.size w)
  have H : (if a0_0 = a1_0 then (downpourref01_Same.j0 k ((l0_1.length : Int) != (l1_1.length : Int)) a0_0 l0_1 a1_0 l1_1) else (downpourref01_Same.j0 k true a0_0 l0_1 a1_0 l1_1)) = some r := h
  clear h
  have HC3 := Aside0.mk H
  clear H
  go_enter Try.func56, Try.ntmps56
  go_upto_region 1 with (first | ((with_reducible refine gate_dst (N := 2) rfl ?_); (try (refine gate_guard (by rfl) ?_; dsimp only)); refine box_event ?hg (N := 2) ?hd (cs := #[.int .i64 a0_0, .slice A0_1 l0_1.length c0_1]) (t := 90) ?hr ?_; (case hd => rfl); (case hg => rfl); (case hr => first | (go_simp; done) | (go_simp; rfl)); intro gb783 hg w4 hbox hb; have n0_ := Aside0.mk (below_step (by repeat (first | (with_reducible first | exact HB.out | apply below_alloc | apply pw_below_drewN | apply below_drew1) | exact HB.out)) hb); have n1_ := Aside0.mk (hbox); have n2_ := Aside0.mk ((by rw [hg]; exact (below_size (by repeat (first | (with_reducible first | exact HB.out | apply below_alloc | apply pw_below_drewN | apply below_drew1) | exact HB.out))) : w.heap.size ≤ gb783)); have n3_ := Aside0.mk ((by rw [hg]; exact (below_size (by repeat (first | (with_reducible first | exact HB.out | apply below_alloc | apply pw_below_drewN | apply below_drew1) | exact HB.out))) : w.heap.size ≤ gb783)); clear HB; have HB := n0_; have BK783 := n1_; have GW783 := n2_; have GE783 := n3_; clear n0_ n1_ n2_ n3_; clear hb hbox hg) | ((with_reducible refine gate_dst (N := 3) rfl ?_); (try (refine gate_guard (by rfl) ?_; dsimp only)); refine box_event ?hg (N := 3) ?hd (cs := #[.int .i64 a1_0, .slice A1_1 l1_1.length c1_1]) (t := 90) ?hr ?_; (case hd => rfl); (case hg => rfl); (case hr => first | (go_simp; done) | (go_simp; rfl)); intro gb784 hg w5 hbox hb; have n0_ := Aside0.mk (blk_below (g := gb783) (o := .cells #[.int .i64 a0_0, .slice A0_1 l0_1.length c0_1] 90 (0, 0)) (by (with_reducible repeat (first | refine blk_drewN ?_ _ | refine blk_drew ?_ | refine blk_alloc ?_ _)); exact BK783.out) hb); have n1_ := Aside0.mk (below_step (by repeat (first | (with_reducible first | exact HB.out | apply below_alloc | apply pw_below_drewN | apply below_drew1 | refine below_set ?_ GE783.out) | exact HB.out)) hb); have n2_ := Aside0.mk (hbox); have n3_ := Aside0.mk ((by rw [hg]; exact (below_size (by repeat (first | (with_reducible first | exact HB.out | apply below_alloc | apply pw_below_drewN | apply below_drew1 | refine below_set ?_ GE783.out) | exact HB.out))) : w.heap.size ≤ gb784)); have n4_ := Aside0.mk ((by rw [hg]; exact (below_size (by repeat (first | (with_reducible first | exact HB.out | apply below_alloc | apply pw_below_drewN | apply below_drew1 | refine below_set ?_ GE783.out) | exact HB.out))) : w.heap.size ≤ gb784)); have n5_ := Aside0.mk ((by rw [hg]; exact Nat.ne_of_lt (blk_lt (g := gb783) (o := .cells #[.int .i64 a0_0, .slice A0_1 l0_1.length c0_1] 90 (0, 0)) (by (with_reducible repeat (first | refine blk_drewN ?_ _ | refine blk_drew ?_ | refine blk_alloc ?_ _)); exact BK783.out)) : gb783 ≠ gb784)); have n6_ := Aside0.mk ((by rw [hg]; exact Nat.ne_of_gt (blk_lt (g := gb783) (o := .cells #[.int .i64 a0_0, .slice A0_1 l0_1.length c0_1] 90 (0, 0)) (by (with_reducible repeat (first | refine blk_drewN ?_ _ | refine blk_drew ?_ | refine blk_alloc ?_ _)); exact BK783.out)) : gb784 ≠ gb783)); clear BK783; clear HB; have BK783 := n0_; have HB := n1_; have BK784 := n2_; have GW784 := n3_; have GE784 := n4_; have NB783_784 := n5_; have NB784_783 := n6_; clear n0_ n1_ n2_ n3_ n4_ n5_ n6_; clear hb hbox hg))
  repeat (go_quiet (first | ((with_reducible refine gate_dst (N := 2) rfl ?_); (try (refine gate_guard (by rfl) ?_; dsimp only)); refine box_event ?hg (N := 2) ?hd (cs := #[.int .i64 a0_0, .slice A0_1 l0_1.length c0_1]) (t := 90) ?hr ?_; (case hd => rfl); (case hg => rfl); (case hr => first | (go_simp; done) | (go_simp; rfl)); intro gb783 hg w4 hbox hb; have n0_ := Aside0.mk (below_step (by repeat (first | (with_reducible first | exact HB.out | apply below_alloc | apply pw_below_drewN | apply below_drew1) | exact HB.out)) hb); have n1_ := Aside0.mk (hbox); have n2_ := Aside0.mk ((by rw [hg]; exact (below_size (by repeat (first | (with_reducible first | exact HB.out | apply below_alloc | apply pw_below_drewN | apply below_drew1) | exact HB.out))) : w.heap.size ≤ gb783)); have n3_ := Aside0.mk ((by rw [hg]; exact (below_size (by repeat (first | (with_reducible first | exact HB.out | apply below_alloc | apply pw_below_drewN | apply below_drew1) | exact HB.out))) : w.heap.size ≤ gb783)); clear HB; have HB := n0_; have BK783 := n1_; have GW783 := n2_; have GE783 := n3_; clear n0_ n1_ n2_ n3_; clear hb hbox hg) | ((with_reducible refine gate_dst (N := 3) rfl ?_); (try (refine gate_guard (by rfl) ?_; dsimp only)); refine box_event ?hg (N := 3) ?hd (cs := #[.int .i64 a1_0, .slice A1_1 l1_1.length c1_1]) (t := 90) ?hr ?_; (case hd => rfl); (case hg => rfl); (case hr => first | (go_simp; done) | (go_simp; rfl)); intro gb784 hg w5 hbox hb; have n0_ := Aside0.mk (blk_below (g := gb783) (o := .cells #[.int .i64 a0_0, .slice A0_1 l0_1.length c0_1] 90 (0, 0)) (by (with_reducible repeat (first | refine blk_drewN ?_ _ | refine blk_drew ?_ | refine blk_alloc ?_ _)); exact BK783.out) hb); have n1_ := Aside0.mk (below_step (by repeat (first | (with_reducible first | exact HB.out | apply below_alloc | apply pw_below_drewN | apply below_drew1 | refine below_set ?_ GE783.out) | exact HB.out)) hb); have n2_ := Aside0.mk (hbox); have n3_ := Aside0.mk ((by rw [hg]; exact (below_size (by repeat (first | (with_reducible first | exact HB.out | apply below_alloc | apply pw_below_drewN | apply below_drew1 | refine below_set ?_ GE783.out) | exact HB.out))) : w.heap.size ≤ gb784)); have n4_ := Aside0.mk ((by rw [hg]; exact (below_size (by repeat (first | (with_reducible first | exact HB.out | apply below_alloc | apply pw_below_drewN | apply below_drew1 | refine below_set ?_ GE783.out) | exact HB.out))) : w.heap.size ≤ gb784)); have n5_ := Aside0.mk ((by rw [hg]; exact Nat.ne_of_lt (blk_lt (g := gb783) (o := .cells #[.int .i64 a0_0, .slice A0_1 l0_1.length c0_1] 90 (0, 0)) (by (with_reducible repeat (first | refine blk_drewN ?_ _ | refine blk_drew ?_ | refine blk_alloc ?_ _)); exact BK783.out)) : gb783 ≠ gb784)); have n6_ := Aside0.mk ((by rw [hg]; exact Nat.ne_of_gt (blk_lt (g := gb783) (o := .cells #[.int .i64 a0_0, .slice A0_1 l0_1.length c0_1] 90 (0, 0)) (by (with_reducible repeat (first | refine blk_drewN ?_ _ | refine blk_drew ?_ | refine blk_alloc ?_ _)); exact BK783.out)) : gb784 ≠ gb783)); clear BK783; clear HB; have BK783 := n0_; have HB := n1_; have BK784 := n2_; have GW784 := n3_; have GE784 := n4_; have NB783_784 := n5_; have NB784_783 := n6_; clear n0_ n1_ n2_ n3_ n4_ n5_ n6_; clear hb hbox hg)); go_upto_region 1 with (first | ((with_reducible refine gate_dst (N := 2) rfl ?_); (try (refine gate_guard (by rfl) ?_; dsimp only)); refine box_event ?hg (N := 2) ?hd (cs := #[.int .i64 a0_0, .slice A0_1 l0_1.length c0_1]) (t := 90) ?hr ?_; (case hd => rfl); (case hg => rfl); (case hr => first | (go_simp; done) | (go_simp; rfl)); intro gb783 hg w4 hbox hb; have n0_ := Aside0.mk (below_step (by repeat (first | (with_reducible first | exact HB.out | apply below_alloc | apply pw_below_drewN | apply below_drew1) | exact HB.out)) hb); have n1_ := Aside0.mk (hbox); have n2_ := Aside0.mk ((by rw [hg]; exact (below_size (by repeat (first | (with_reducible first | exact HB.out | apply below_alloc | apply pw_below_drewN | apply below_drew1) | exact HB.out))) : w.heap.size ≤ gb783)); have n3_ := Aside0.mk ((by rw [hg]; exact (below_size (by repeat (first | (with_reducible first | exact HB.out | apply below_alloc | apply pw_below_drewN | apply below_drew1) | exact HB.out))) : w.heap.size ≤ gb783)); clear HB; have HB := n0_; have BK783 := n1_; have GW783 := n2_; have GE783 := n3_; clear n0_ n1_ n2_ n3_; clear hb hbox hg) | ((with_reducible refine gate_dst (N := 3) rfl ?_); (try (refine gate_guard (by rfl) ?_; dsimp only)); refine box_event ?hg (N := 3) ?hd (cs := #[.int .i64 a1_0, .slice A1_1 l1_1.length c1_1]) (t := 90) ?hr ?_; (case hd => rfl); (case hg => rfl); (case hr => first | (go_simp; done) | (go_simp; rfl)); intro gb784 hg w5 hbox hb; have n0_ := Aside0.mk (blk_below (g := gb783) (o := .cells #[.int .i64 a0_0, .slice A0_1 l0_1.length c0_1] 90 (0, 0)) (by (with_reducible repeat (first | refine blk_drewN ?_ _ | refine blk_drew ?_ | refine blk_alloc ?_ _)); exact BK783.out) hb); have n1_ := Aside0.mk (below_step (by repeat (first | (with_reducible first | exact HB.out | apply below_alloc | apply pw_below_drewN | apply below_drew1 | refine below_set ?_ GE783.out) | exact HB.out)) hb); have n2_ := Aside0.mk (hbox); have n3_ := Aside0.mk ((by rw [hg]; exact (below_size (by repeat (first | (with_reducible first | exact HB.out | apply below_alloc | apply pw_below_drewN | apply below_drew1 | refine below_set ?_ GE783.out) | exact HB.out))) : w.heap.size ≤ gb784)); have n4_ := Aside0.mk ((by rw [hg]; exact (below_size (by repeat (first | (with_reducible first | exact HB.out | apply below_alloc | apply pw_below_drewN | apply below_drew1 | refine below_set ?_ GE783.out) | exact HB.out))) : w.heap.size ≤ gb784)); have n5_ := Aside0.mk ((by rw [hg]; exact Nat.ne_of_lt (blk_lt (g := gb783) (o := .cells #[.int .i64 a0_0, .slice A0_1 l0_1.length c0_1] 90 (0, 0)) (by (with_reducible repeat (first | refine blk_drewN ?_ _ | refine blk_drew ?_ | refine blk_alloc ?_ _)); exact BK783.out)) : gb783 ≠ gb784)); have n6_ := Aside0.mk ((by rw [hg]; exact Nat.ne_of_gt (blk_lt (g := gb783) (o := .cells #[.int .i64 a0_0, .slice A0_1 l0_1.length c0_1] 90 (0, 0)) (by (with_reducible repeat (first | refine blk_drewN ?_ _ | refine blk_drew ?_ | refine blk_alloc ?_ _)); exact BK783.out)) : gb784 ≠ gb783)); clear BK783; clear HB; have BK783 := n0_; have HB := n1_; have BK784 := n2_; have GW784 := n3_; have GE784 := n4_; have NB783_784 := n5_; have NB784_783 := n6_; clear n0_ n1_ n2_ n3_ n4_ n5_ n6_; clear hb hbox hg)))
  (try simp only [Act.put, List.setIfInBounds_toArray, List.set_cons_zero, List.set_cons_succ])
  go_cut [19] (fun v19 wc => ∃ (kq : Nat) (x19_2 : Bool), v19 = .bool x19_2 ∧ Aside0 (downpourref01_Same.j0 kq x19_2 a0_0 l0_1 a1_0 l1_1 = some r) ∧ Aside0 (kq ≤ k) ∧ Aside0 (wc.heap[gb783]? = some (.cells #[.int .i64 a0_0, (.slice A0_1 l0_1.length c0_1)] 90 (0, 0))) ∧ Aside0 (wc.heap[gb784]? = some (.cells #[.int .i64 a1_0, (.slice A1_1 l1_1.length c1_1)] 90 (0, 0))) ∧ Aside0 (Below w.heap.size w wc))
  case first =>
    have H := HC3.out
    clear HC3
    by_cases c6 : a0_0 = a1_0
    · rw [if_pos c6] at H
      have c6b0 : (a0_0 == a1_0) = true := beq_iff_eq.mpr c6
      have c6b1 : (a0_0 != a1_0) = false := bne_eq_false_iff_eq.mpr c6
      clear c6
      (first | rw [c6b0] | (simp only [i64_w, i32_w]; rw [c6b0]) | skip)
      have H' := Aside0.mk H
      clear H
      have hnb7 := NB783_784.out
      have hnc7 := NB784_783.out
      have hcz8_0 : w5.cell? ⟨gb783, 0, none⟩ = some (.int .i64 a0_0) := (blk_cell BK783.out 0).trans rfl
      have hcz8_1 : w5.cell? ⟨gb783, 1, none⟩ = some (.slice A0_1 l0_1.length c0_1) := (blk_cell BK783.out 1).trans rfl
      have hfz8_0 := blk_frozen BK783.out 0
      have hfz8_1 := blk_frozen BK783.out 1
      have hcz9_0 : w5.cell? ⟨gb784, 0, none⟩ = some (.int .i64 a1_0) := (blk_cell BK784.out 0).trans rfl
      have hcz9_1 : w5.cell? ⟨gb784, 1, none⟩ = some (.slice A1_1 l1_1.length c1_1) := (blk_cell BK784.out 1).trans rfl
      have hfz9_0 := blk_frozen BK784.out 0
      have hfz9_1 := blk_frozen BK784.out 1
      go_wp2
      repeat (go_quiet (fail); try go_wp2)
      go_meet
      case rel => exact ⟨_, (((l0_1.length : Int) != (l1_1.length : Int))), (by first | rfl | (simp; done) | (simp [*]; done)), H', ⟨by first | omega | exact Nat.le_refl _⟩, ⟨by (with_reducible repeat (first | refine blk_drewN ?_ _ | refine blk_drew ?_ | refine blk_alloc ?_ _)); exact BK783.out⟩, ⟨by (with_reducible repeat (first | refine blk_drewN ?_ _ | refine blk_drew ?_ | refine blk_alloc ?_ _)); exact BK784.out⟩, ⟨by repeat (first | (with_reducible first | exact HB.out | apply below_alloc | apply pw_below_drewN | apply below_drew1 | refine below_set ?_ GE783.out | refine below_set ?_ GE784.out) | exact HB.out)⟩⟩
    · rw [if_neg c6] at H
      have c6b0 : (a0_0 == a1_0) = false := beq_eq_false_iff_ne.mpr c6
      have c6b1 : (a0_0 != a1_0) = true := bne_iff_ne.mpr c6
      (first | rw [c6b0] | (simp only [i64_w, i32_w]; rw [c6b0]) | skip)
      have H' := Aside0.mk H
      clear H
      have hnb10 := NB783_784.out
      have hnc10 := NB784_783.out
      have hcz11_0 : w5.cell? ⟨gb783, 0, none⟩ = some (.int .i64 a0_0) := (blk_cell BK783.out 0).trans rfl
      have hcz11_1 : w5.cell? ⟨gb783, 1, none⟩ = some (.slice A0_1 l0_1.length c0_1) := (blk_cell BK783.out 1).trans rfl
      have hfz11_0 := blk_frozen BK783.out 0
      have hfz11_1 := blk_frozen BK783.out 1
      have hcz12_0 : w5.cell? ⟨gb784, 0, none⟩ = some (.int .i64 a1_0) := (blk_cell BK784.out 0).trans rfl
      have hcz12_1 : w5.cell? ⟨gb784, 1, none⟩ = some (.slice A1_1 l1_1.length c1_1) := (blk_cell BK784.out 1).trans rfl
      have hfz12_0 := blk_frozen BK784.out 0
      have hfz12_1 := blk_frozen BK784.out 1
      go_wp2
      repeat (go_quiet (fail); try go_wp2)
      go_meet
      case rel => exact ⟨_, (true), (by first | rfl | (simp; done) | (simp [*]; done)), H', ⟨by first | omega | exact Nat.le_refl _⟩, ⟨by (with_reducible repeat (first | refine blk_drewN ?_ _ | refine blk_drew ?_ | refine blk_alloc ?_ _)); exact BK783.out⟩, ⟨by (with_reducible repeat (first | refine blk_drewN ?_ _ | refine blk_drew ?_ | refine blk_alloc ?_ _)); exact BK784.out⟩, ⟨by repeat (first | (with_reducible first | exact HB.out | apply below_alloc | apply pw_below_drewN | apply below_drew1 | refine below_set ?_ GE783.out | refine below_set ?_ GE784.out) | exact HB.out)⟩⟩
  case rest =>
    clear HC3
    try clear c1
    try clear p2
    try clear c5
    try clear c6
    try clear c6b0
    try clear c6b1
    try clear c7
    try clear c10
    try clear hcz11_0
    try clear hcz11_1
    try clear hcz12_0
    try clear hcz12_1
    try clear hcz8_0
    try clear hcz8_1
    try clear hcz9_0
    try clear hcz9_1
    try clear hfz11_0
    try clear hfz11_1
    try clear hfz12_0
    try clear hfz12_1
    try clear hfz8_0
    try clear hfz8_1
    try clear hfz9_0
    try clear hfz9_1
    obtain ⟨kq, x19_2, rfl, HA, HJ2, BK783, BK784, HB⟩ := hcut
    cases kq with
    | zero => exact absurd HA.out (by simp [downpourref01_Same.j0])
    | succ kj2 =>
      have H := HA.out
      clear HA
      simp only [downpourref01_Same.j0] at H
      by_cases c13 : x19_2 = true
      · subst c13
        have H1 : (some false) = some r := by rw [if_pos rfl] at H; exact H
        clear H
        have H := H1
        clear H1
        obtain rfl := Option.some.inj H
        go_wp2
        repeat (go_quiet (fail); try go_wp2)
        go_ret
        exact ⟨by first | rfl | (simp [errW_none, errW_some] <;> rfl) | (simp [*, errW_none, errW_some] <;> rfl), by repeat (first | (with_reducible first | exact HB.out | apply below_alloc | apply pw_below_drewN | apply below_drew1 | refine below_set ?_ GE783.out | refine below_set ?_ GE784.out) | exact HB.out)⟩
      · replace c13 := Bool.eq_false_iff.mpr c13
        subst c13
        have H1 : (downpourref01_Same.l0 kj2 (l0_1.length : Int) 0 a0_0 l0_1 a1_0 l1_1) = some r := by rw [if_neg (show ¬ (false = true) by decide)] at H; exact H
        clear H
        have H := H1
        clear H1
        have H' := Aside0.mk H
        clear H
        have hnb14 := NB783_784.out
        have hnc14 := NB784_783.out
        have hcz15_0 : wc.cell? ⟨gb783, 0, none⟩ = some (.int .i64 a0_0) := (blk_cell BK783.out 0).trans rfl
        have hcz15_1 : wc.cell? ⟨gb783, 1, none⟩ = some (.slice A0_1 l0_1.length c0_1) := (blk_cell BK783.out 1).trans rfl
        have hfz15_0 := blk_frozen BK783.out 0
        have hfz15_1 := blk_frozen BK783.out 1
        go_wp2
        repeat (go_quiet (fail); try go_wp2)
        go_loopg [23] kj2 (fun kq v23 w' => ∃ (x23_2 : Int), v23 = .int .i64 x23_2 ∧ Aside0 (downpourref01_Same.l0 kq (l0_1.length : Int) x23_2 a0_0 l0_1 a1_0 l1_1 = some r) ∧ Aside0 (kq ≤ kj2) ∧ Aside0 (w'.heap[gb783]? = some (.cells #[.int .i64 a0_0, (.slice A0_1 l0_1.length c0_1)] 90 (0, 0))) ∧ Aside0 (w'.heap[gb784]? = some (.cells #[.int .i64 a1_0, (.slice A1_1 l1_1.length c1_1)] 90 (0, 0))) ∧ Aside0 (Below w.heap.size w w'))
        case atStart => exact ⟨(0), (by first | rfl | (simp; done) | (simp [*]; done)), H', ⟨Nat.le_refl _⟩, ⟨by (with_reducible repeat (first | refine blk_drewN ?_ _ | refine blk_drew ?_ | refine blk_alloc ?_ _)); exact BK783.out⟩, ⟨by (with_reducible repeat (first | refine blk_drewN ?_ _ | refine blk_drew ?_ | refine blk_alloc ?_ _)); exact BK784.out⟩, ⟨by repeat (first | (with_reducible first | exact HB.out | apply below_alloc | apply pw_below_drewN | apply below_drew1 | refine below_set ?_ GE783.out | refine below_set ?_ GE784.out) | exact HB.out)⟩⟩
        case round =>
          clear H'
          try clear c1
          try clear p2
          try clear c5
          try clear c6
          try clear c6b0
          try clear c6b1
          try clear c7
          try clear c10
          try clear c13
          try clear c14
          try clear hcz11_0
          try clear hcz11_1
          try clear hcz12_0
          try clear hcz12_1
          try clear hcz15_0
          try clear hcz15_1
          try clear hcz8_0
          try clear hcz8_1
          try clear hcz9_0
          try clear hcz9_1
          try clear hfz11_0
          try clear hfz11_1
          try clear hfz12_0
          try clear hfz12_1
          try clear hfz15_0
          try clear hfz15_1
          try clear hfz8_0
          try clear hfz8_1
          try clear hfz9_0
          try clear hfz9_1
          try clear p2
          obtain ⟨x23_2, rfl, HA, HK2, BK783, BK784, HB⟩ := hrel
          cases gk with
          | zero => exact absurd HA.out (by simp [downpourref01_Same.l0])
          | succ k2 =>
            have H := HA.out
            clear HA
            simp only [downpourref01_Same.l0] at H
            by_cases c16 : x23_2 < (l0_1.length : Int)
            · rw [if_pos c16] at H
              have c16b0 : decide (x23_2 < (l0_1.length : Int)) = true := decide_eq_true c16
              clear c16
              by_cases c17 : 0 ≤ x23_2
              · rw [if_pos c17] at H
                have c17b0 : decide (0 ≤ x23_2) = true := decide_eq_true c17
                clear c17
                by_cases c18 : x23_2 < (l0_1.length : Int)
                · rw [if_pos c18] at H
                  have c18b0 : decide (x23_2 < (l0_1.length : Int)) = true := decide_eq_true c18
                  clear c18
                  by_cases c19 : x23_2 < (l1_1.length : Int)
                  · rw [if_pos c19] at H
                    have c19b0 : decide (x23_2 < (l1_1.length : Int)) = true := decide_eq_true c19
                    clear c19
                    by_cases c20 : (rd l0_1 x23_2) = (rd l1_1 x23_2)
                    · rw [if_pos c20] at H
                      have c20b0 : ((rd l0_1 x23_2) == (rd l1_1 x23_2)) = true := beq_iff_eq.mpr c20
                      have c20b1 : ((rd l0_1 x23_2) != (rd l1_1 x23_2)) = false := bne_eq_false_iff_eq.mpr c20
                      clear c20
                      have H' := Aside0.mk H
                      clear H
                      have hnb21 := NB783_784.out
                      have hnc21 := NB784_783.out
                      have hcz22_0 : wr.cell? ⟨gb783, 0, none⟩ = some (.int .i64 a0_0) := (blk_cell BK783.out 0).trans rfl
                      have hcz22_1 : wr.cell? ⟨gb783, 1, none⟩ = some (.slice A0_1 l0_1.length c0_1) := (blk_cell BK783.out 1).trans rfl
                      have hfz22_0 := blk_frozen BK783.out 0
                      have hfz22_1 := blk_frozen BK783.out 1
                      have p785 : 0 ≤ (x23_2 : Int) := of_decide_eq_true (by first | (with_reducible assumption) | assumption)
                      have q785 : x23_2 < (l0_1.length : Int) := of_decide_eq_true (by first | (with_reducible assumption) | assumption)
                      obtain ⟨ad785, e785, hx785_0⟩ := Kd.at_int HR0_1.out x23_2 p785 q785
                      cases e785
                      replace hx785_0 := (HB.out.cell (World.block_lt_of_cell? w _ hx785_0)).trans hx785_0
                      replace p785 := eq_true p785
                      replace q785 := eq_true q785
                      have hcz23_0 : wr.cell? ⟨gb784, 0, none⟩ = some (.int .i64 a1_0) := (blk_cell BK784.out 0).trans rfl
                      have hcz23_1 : wr.cell? ⟨gb784, 1, none⟩ = some (.slice A1_1 l1_1.length c1_1) := (blk_cell BK784.out 1).trans rfl
                      have hfz23_0 := blk_frozen BK784.out 0
                      have hfz23_1 := blk_frozen BK784.out 1
                      have p786 : 0 ≤ (x23_2 : Int) := of_decide_eq_true (by first | (with_reducible assumption) | assumption)
                      have q786 : x23_2 < (l1_1.length : Int) := of_decide_eq_true (by first | (with_reducible assumption) | assumption)
                      obtain ⟨ad786, e786, hx786_0⟩ := Kd.at_int HR1_1.out x23_2 p786 q786
                      cases e786
                      replace hx786_0 := (HB.out.cell (World.block_lt_of_cell? w _ hx786_0)).trans hx786_0
                      replace p786 := eq_true p786
                      replace q786 := eq_true q786
                      go_wp2
                      repeat (go_quiet (fail); try go_wp2)
                      go_roundg k2
                      case measure => have := HJ2.out; have := HK2.out; omega
                      case rel => exact ⟨(wrap64 (x23_2 + 1)), (by first | rfl | (simp; done) | (simp [*]; done)), H', ⟨by have := HJ2.out; have := HK2.out; omega⟩, ⟨by (with_reducible repeat (first | refine blk_drewN ?_ _ | refine blk_drew ?_ | refine blk_alloc ?_ _)); exact BK783.out⟩, ⟨by (with_reducible repeat (first | refine blk_drewN ?_ _ | refine blk_drew ?_ | refine blk_alloc ?_ _)); exact BK784.out⟩, ⟨by repeat (first | (with_reducible first | exact HB.out | apply below_alloc | apply pw_below_drewN | apply below_drew1 | refine below_set ?_ GE783.out | refine below_set ?_ GE784.out) | exact HB.out)⟩⟩
                    · rw [if_neg c20] at H
                      have c20b0 : ((rd l0_1 x23_2) == (rd l1_1 x23_2)) = false := beq_eq_false_iff_ne.mpr c20
                      have c20b1 : ((rd l0_1 x23_2) != (rd l1_1 x23_2)) = true := bne_iff_ne.mpr c20
                      obtain rfl := Option.some.inj H
                      have hnb24 := NB783_784.out
                      have hnc24 := NB784_783.out
                      have hcz25_0 : wr.cell? ⟨gb783, 0, none⟩ = some (.int .i64 a0_0) := (blk_cell BK783.out 0).trans rfl
                      have hcz25_1 : wr.cell? ⟨gb783, 1, none⟩ = some (.slice A0_1 l0_1.length c0_1) := (blk_cell BK783.out 1).trans rfl
                      have hfz25_0 := blk_frozen BK783.out 0
                      have hfz25_1 := blk_frozen BK783.out 1
                      have p785 : 0 ≤ (x23_2 : Int) := of_decide_eq_true (by first | (with_reducible assumption) | assumption)
                      have q785 : x23_2 < (l0_1.length : Int) := of_decide_eq_true (by first | (with_reducible assumption) | assumption)
                      obtain ⟨ad785, e785, hx785_0⟩ := Kd.at_int HR0_1.out x23_2 p785 q785
                      cases e785
                      replace hx785_0 := (HB.out.cell (World.block_lt_of_cell? w _ hx785_0)).trans hx785_0
                      replace p785 := eq_true p785
                      replace q785 := eq_true q785
                      have hcz26_0 : wr.cell? ⟨gb784, 0, none⟩ = some (.int .i64 a1_0) := (blk_cell BK784.out 0).trans rfl
                      have hcz26_1 : wr.cell? ⟨gb784, 1, none⟩ = some (.slice A1_1 l1_1.length c1_1) := (blk_cell BK784.out 1).trans rfl
                      have hfz26_0 := blk_frozen BK784.out 0
                      have hfz26_1 := blk_frozen BK784.out 1
                      have p786 : 0 ≤ (x23_2 : Int) := of_decide_eq_true (by first | (with_reducible assumption) | assumption)
                      have q786 : x23_2 < (l1_1.length : Int) := of_decide_eq_true (by first | (with_reducible assumption) | assumption)
                      obtain ⟨ad786, e786, hx786_0⟩ := Kd.at_int HR1_1.out x23_2 p786 q786
                      cases e786
                      replace hx786_0 := (HB.out.cell (World.block_lt_of_cell? w _ hx786_0)).trans hx786_0
                      replace p786 := eq_true p786
                      replace q786 := eq_true q786
                      go_wp2
                      repeat (go_quiet (fail); try go_wp2)
                      go_ret
                      exact ⟨by first | rfl | (simp [errW_none, errW_some] <;> rfl) | (simp [*, errW_none, errW_some] <;> rfl), by repeat (first | (with_reducible first | exact HB.out | apply below_alloc | apply pw_below_drewN | apply below_drew1 | refine below_set ?_ GE783.out | refine below_set ?_ GE784.out) | exact HB.out)⟩
                  · rw [if_neg c19] at H
                    exact absurd H (by simp)
                · rw [if_neg c18] at H
                  exact absurd H (by simp)
              · rw [if_neg c17] at H
                exact absurd H (by simp)
            · rw [if_neg c16] at H
              have c16b0 : decide (x23_2 < (l0_1.length : Int)) = false := decide_eq_false c16
              clear c16
              obtain rfl := Option.some.inj H
              go_wp2
              repeat (go_quiet (fail); try go_wp2)
              go_ret
              exact ⟨by first | rfl | (simp [errW_none, errW_some] <;> rfl) | (simp [*, errW_none, errW_some] <;> rfl), by repeat (first | (with_reducible first | exact HB.out | apply below_alloc | apply pw_below_drewN | apply below_drew1 | refine below_set ?_ GE783.out | refine below_set ?_ GE784.out) | exact HB.out)⟩

/-! ### downpourref07_Pick: function 109 -/
def downpourref07_Pick.l0 : Nat → Int → List Int → Int → Int → Option (Int)
  | 0, _, _, _, _ => none
  | k + 1, x1, x15, x16, x17 => if x17 < x16 then (if 0 ≤ x17 then (if x17 < (x15.length : Int) then (if (rd x15 x17) > x1 then (some (wrap64 (x17 + 1))) else (downpourref07_Pick.l0 k x1 x15 x16 (wrap64 (x17 + 1)))) else (none)) else (none)) else (some 0)
def downpourref07_Pick.f (k : Nat) (l0 : List Int) (a1 : Int) : Option (Int) := if 0 ≤ (wrap64 ((l0.length : Int) - 1)) then (if (wrap64 ((l0.length : Int) - 1)) < (l0.length : Int) then (if (rd l0 (wrap64 ((l0.length : Int) - 1))) = 0 then (none) else (downpourref07_Pick.l0 k (Int.tmod a1 (rd l0 (wrap64 ((l0.length : Int) - 1)))) l0 (l0.length : Int) 0)) else (none)) else (none)
set_option maxHeartbeats 8000000 in
set_option maxRecDepth 100000 in
theorem downpourref07_Pick.calls (k : Nat) (A0 : Option Addr) (c0 : Nat) (l0 : List Int) (a1 : Int) (r : Int) (w : World) (hr0 : Kd.C (Kd.int .u64) w A0 l0.length l0) (hc0 : l0.length ≤ c0) (h : downpourref07_Pick.f k l0 a1 = some r) :
    Calls Try.prog 109 #[.slice A0 l0.length c0, .int .u64 a1] w fun e w' => e = .returned (.int .i64 r) ∧ Drawn0 w w' := by
  have HR0 := Aside0.mk hr0
  have HC0 := Aside0.mk hc0
  clear hr0 hc0
  have H : (if 0 ≤ (wrap64 ((l0.length : Int) - 1)) then (if (wrap64 ((l0.length : Int) - 1)) < (l0.length : Int) then (if (rd l0 (wrap64 ((l0.length : Int) - 1))) = 0 then (none) else (downpourref07_Pick.l0 k (Int.tmod a1 (rd l0 (wrap64 ((l0.length : Int) - 1)))) l0 (l0.length : Int) 0)) else (none)) else (none)) = some r := h
  clear h
  obtain ⟨ji3, hji3⟩ : ∃ j_ : Int, (wrap64 ((l0.length : Int) - 1)) = j_ := ⟨_, rfl⟩
  replace H : (if 0 ≤ (ji3) then (if (ji3) < (l0.length : Int) then (if (rd l0 (ji3)) = 0 then (none) else (downpourref07_Pick.l0 k (Int.tmod a1 (rd l0 (ji3))) l0 (l0.length : Int) 0)) else (none)) else (none)) = some r := by first | (rw [hji3] at H; exact H) | (simp only [hji3] at H ⊢; exact H)
  have hji3w : (IntKind.i64.wrap ((l0.length : Int) - 1)) = ji3 := (i64_w _).trans hji3
  by_cases c4 : 0 ≤ (ji3)
  · rw [if_pos c4] at H
    have c4b0 : decide (0 ≤ (ji3)) = true := decide_eq_true c4
    clear c4
    by_cases c5 : (ji3) < (l0.length : Int)
    · rw [if_pos c5] at H
      have c5b0 : decide ((ji3) < (l0.length : Int)) = true := decide_eq_true c5
      clear c5
      by_cases c6 : (rd l0 (ji3)) = 0
      · rw [if_pos c6] at H
        exact absurd H (by simp)
      · rw [if_neg c6] at H
        have c6b0 : ((rd l0 (ji3)) == 0) = false := beq_eq_false_iff_ne.mpr c6
        have c6b1 : ((rd l0 (ji3)) != 0) = true := bne_iff_ne.mpr c6
        have H' := Aside0.mk H
        clear H
        have p787 : 0 ≤ ((ji3) : Int) := of_decide_eq_true (by first | (with_reducible assumption) | assumption)
        have q787 : (ji3) < (l0.length : Int) := of_decide_eq_true (by first | (with_reducible assumption) | assumption)
        obtain ⟨ad787, e787, hx787_0⟩ := Kd.at_int HR0.out (ji3) p787 q787
        cases e787
        replace p787 := eq_true p787
        replace q787 := eq_true q787
        go_enter Try.func109, Try.ntmps109
        go_wp2
        go_loopg [17] k (fun kq v17 w' => ∃ (x17_1 : Int), v17 = .int .i64 x17_1 ∧ Aside0 (downpourref07_Pick.l0 kq (Int.tmod a1 (rd l0 (ji3))) l0 (l0.length : Int) x17_1 = some r) ∧ Aside0 (kq ≤ k) ∧ Drawn0 w w')
        case atStart => exact ⟨(0), (by first | rfl | (simp; done) | (simp [*]; done)), H', ⟨Nat.le_refl _⟩, by repeat (first | exact Drawn0.refl _ | apply Drawn0.step)⟩
        case round =>
          clear H'
          try clear c1
          try clear p2
          try clear c4
          try clear c4b0
          try clear c5
          try clear c5b0
          try clear c6
          try clear c6b0
          try clear c6b1
          try clear p6
          try clear hx787_0
          try clear p787
          try clear q787
          obtain ⟨x17_1, rfl, HA, HK1, ⟨m1, rfl⟩⟩ := hrel
          cases gk with
          | zero => exact absurd HA.out (by simp [downpourref07_Pick.l0])
          | succ k1 =>
            have H := HA.out
            clear HA
            simp only [downpourref07_Pick.l0] at H
            by_cases c7 : x17_1 < (l0.length : Int)
            · rw [if_pos c7] at H
              have c7b0 : decide (x17_1 < (l0.length : Int)) = true := decide_eq_true c7
              clear c7
              by_cases c8 : 0 ≤ x17_1
              · rw [if_pos c8] at H
                have c8b0 : decide (0 ≤ x17_1) = true := decide_eq_true c8
                clear c8
                by_cases c9 : x17_1 < (l0.length : Int)
                · rw [if_pos c9] at H
                  have c9b0 : decide (x17_1 < (l0.length : Int)) = true := decide_eq_true c9
                  clear c9
                  by_cases c10 : (rd l0 x17_1) > (Int.tmod a1 (rd l0 (ji3)))
                  · rw [if_pos c10] at H
                    have c10b0 : decide ((Int.tmod a1 (rd l0 (ji3))) < (rd l0 x17_1)) = true := decide_eq_true c10
                    clear c10
                    obtain rfl := Option.some.inj H
                    have p788 : 0 ≤ (x17_1 : Int) := of_decide_eq_true (by first | (with_reducible assumption) | assumption)
                    have q788 : x17_1 < (l0.length : Int) := of_decide_eq_true (by first | (with_reducible assumption) | assumption)
                    obtain ⟨ad788, e788, hx788_0⟩ := Kd.at_int HR0.out x17_1 p788 q788
                    obtain rfl : ad787 = ad788 := (by injection e788)
                    replace p788 := eq_true p788
                    replace q788 := eq_true q788
                    go_wp2
                    go_ret
                    exact ⟨by first | rfl | (simp; done) | (simp only [← hji3] <;> (first | rfl | simp)) | (simp [*]; done), by repeat (first | exact Drawn0.refl _ | apply Drawn0.step)⟩
                  · rw [if_neg c10] at H
                    have c10b0 : decide ((Int.tmod a1 (rd l0 (ji3))) < (rd l0 x17_1)) = false := decide_eq_false c10
                    clear c10
                    have H' := Aside0.mk H
                    clear H
                    have p788 : 0 ≤ (x17_1 : Int) := of_decide_eq_true (by first | (with_reducible assumption) | assumption)
                    have q788 : x17_1 < (l0.length : Int) := of_decide_eq_true (by first | (with_reducible assumption) | assumption)
                    obtain ⟨ad788, e788, hx788_0⟩ := Kd.at_int HR0.out x17_1 p788 q788
                    obtain rfl : ad787 = ad788 := (by injection e788)
                    replace p788 := eq_true p788
                    replace q788 := eq_true q788
                    go_wp2
                    go_roundg k1
                    case measure => have := HK1.out; omega
                    case rel => exact ⟨(wrap64 (x17_1 + 1)), (by first | rfl | (simp; done) | (simp [*]; done)), H', ⟨by have := HK1.out; omega⟩, by repeat (first | exact Drawn0.refl _ | apply Drawn0.step)⟩
                · rw [if_neg c9] at H
                  exact absurd H (by simp)
              · rw [if_neg c8] at H
                exact absurd H (by simp)
            · rw [if_neg c7] at H
              have c7b0 : decide (x17_1 < (l0.length : Int)) = false := decide_eq_false c7
              clear c7
              obtain rfl := Option.some.inj H
              go_wp2
              go_ret
              exact ⟨by first | rfl | (simp; done) | (simp only [← hji3] <;> (first | rfl | simp)) | (simp [*]; done), by repeat (first | exact Drawn0.refl _ | apply Drawn0.step)⟩
    · rw [if_neg c5] at H
      exact absurd H (by simp)
  · rw [if_neg c4] at H
    exact absurd H (by simp)

end Go.Proofs.Ytaofanhdmfdlmaa.Print

