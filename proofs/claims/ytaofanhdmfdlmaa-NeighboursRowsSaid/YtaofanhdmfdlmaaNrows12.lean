import Derived.Test.YtaofanhdmfdlmaaNrows0
import Derived.Test.YtaofanhdmfdlmaaNrows6
import Derived.Test.YtaofanhdmfdlmaaNrows11
-- PRINTED by print.py (a twelfth state) out of the translation. Not trusted: Lean checks it.
namespace Go.Proofs.Ytaofanhdmfdlmaa.Print
open Go.RowKit Go.Proofs.YtaofanhdmfdlmaaW.PrintWords Go.Proofs.YtaofanhdmfdlmaaW.PrintLast Go.Proofs.YtaofanhdmfdlmaaW.PrintMore
attribute [local go_sem] max2_int min2_int max_two min_two max_three min_three max_four min_four   -- for this text's walks alone
set_option linter.unusedVariables false
set_option linter.unusedSimpArgs false

/-! ### neighbours_of: function 105 -/
def neighbours_of.f (a0 : Int) : Option (Int × List Int × Int) := (degree_Table.f a0).bind fun bt716 => (some (a0, bt716.1, bt716.2))
set_option maxHeartbeats 8000000 in
set_option maxRecDepth 100000 in
theorem neighbours_of.calls (a0 : Int) (r1 : Int) (r2 : List Int) (r3 : Int) (w : World) (h : neighbours_of.f a0 = some (r1, r2, r3)) :
    Calls Try.prog 105 #[.int .i64 a0] w fun e w' => ∃ v1_ : Value, e = .returned (.tuple #[.agg #[.int .i64 r1, v1_], .int .i64 r3]) ∧ Kd.R (Kd.int .u64) 25 w' w.heap.size (fun _ => True) v1_ r2 ∧ Below w.heap.size w w' := by
  have hu146 := Try.underlying146
  have HB := Aside0.mk (Below.refl w.heap.size w)
  have H : ((degree_Table.f a0).bind fun bt716 => (some (a0, bt716.1, bt716.2))) = some (r1, r2, r3) := h
  clear h
  replace H := Option.bind_eq_some_iff.mp H
  obtain ⟨⟨t716, t717⟩, A20, H⟩ := H
  replace H : (some (a0, t716, t717)) = some (r1, r2, r3) := H
  have A2 := Aside0.mk A20
  clear A20
  simp only [Option.some.injEq, Prod.mk.injEq] at H
  obtain ⟨rfl, rfl, rfl⟩ := H
  go_enter Try.func105, Try.ntmps105
  go_wp2_with (first | ((with_reducible refine gate_dst (N := 2) rfl ?_); refine box_event ?hg (N := 2) ?hd (cs := #[.int .i64 0, .slice none 0 0]) (t := 146) ?hr ?_; (case hd => rfl); (case hg => rfl); (case hr => first | (go_simp; done) | (go_simp; rfl)); intro gb715 hg w3 hbox hb; have n0_ := Aside0.mk (below_step (by repeat (first | (with_reducible first | exact HB.out | apply below_alloc | apply pw_below_drewN | apply below_drew1) | exact HB.out)) hb); have n1_ := Aside0.mk (hbox); have n2_ := Aside0.mk ((by rw [hg]; exact (below_size (by repeat (first | (with_reducible first | exact HB.out | apply below_alloc | apply pw_below_drewN | apply below_drew1) | exact HB.out))) : w.heap.size ≤ gb715)); have n3_ := Aside0.mk ((by rw [hg]; exact (below_size (by repeat (first | (with_reducible first | exact HB.out | apply below_alloc | apply pw_below_drewN | apply below_drew1) | exact HB.out))) : w.heap.size ≤ gb715)); clear HB; have HB := n0_; have BK715 := n1_; have GW715 := n2_; have GE715 := n3_; clear n0_ n1_ n2_ n3_; clear hb hbox hg) | ((with_reducible refine gate_callee (f := 133) rfl ?_); refine goesL_ (some 8) rfl rfl Try.func133 (by kernel_rfl) rfl #[.int .i64 a0] rfl (by (try simp only [List.map_toArray, List.map_cons, List.map_nil]); first | done | rfl | (simp only [List.length_drop, List.length_take]; rfl)) ?_; (with_reducible refine (degree_Table.calls a0 t716 t717 _ A2.out).mono ?_); rintro e w4 ⟨v718, rfl, ho0, hb⟩; refine ⟨_, rfl, ?_⟩; have n0_ := Aside0.mk (Kd.R_lower ho0 (below_size (by repeat (first | (with_reducible first | exact HB.out | apply below_alloc | apply pw_below_drewN | apply below_drew1 | refine below_set ?_ GE715.out) | exact HB.out)))); have n1_ := Aside0.mk (blk_below (g := gb715) (o := .cells #[.int .i64 0, .slice none 0 0] 146 (0, 0)) (by (with_reducible repeat (first | refine blk_drewN ?_ _ | refine blk_drew ?_ | refine blk_alloc ?_ _)); exact BK715.out) hb); have n2_ := Aside0.mk (below_step (by repeat (first | (with_reducible first | exact HB.out | apply below_alloc | apply pw_below_drewN | apply below_drew1 | refine below_set ?_ GE715.out) | exact HB.out)) hb); clear BK715; clear HB; have HO719 := n0_; have BK715 := n1_; have HB := n2_; clear n0_ n1_ n2_; (try clear hb); (try clear hb2); (try clear hk); (try clear hi); (try clear ho0); obtain ⟨Ao5, co5, eo5⟩ := Kd.R_slice HO719.out; subst eo5; have hcz6_0 : w4.cell? ⟨gb715, 0, none⟩ = some (.int .i64 0) := (blk_cell BK715.out 0).trans rfl; have hcz6_1 : w4.cell? ⟨gb715, 1, none⟩ = some (.slice none 0 0) := (blk_cell BK715.out 1).trans rfl; have hfz6_0 := blk_frozen BK715.out 0; have hfz6_1 := blk_frozen BK715.out 1))
  refine bodyPost_ret (results_ct rfl _ _ gb715 146 #[.int .i64 a0, .slice Ao5 t716.length co5] (0, 0) _ rfl (by (with_reducible repeat (first | refine blk_drewN ?_ _ | refine blk_drew ?_ | refine blk_alloc ?_ _)); refine blk_put (cs := #[.int .i64 a0, .slice none 0 0]) ?_ 1 _ rfl; (with_reducible repeat (first | refine blk_drewN ?_ _ | refine blk_drew ?_ | refine blk_alloc ?_ _)); refine blk_put (cs := #[.int .i64 0, .slice none 0 0]) ?_ 0 _ rfl; (with_reducible repeat (first | refine blk_drewN ?_ _ | refine blk_drew ?_ | refine blk_alloc ?_ _)); exact BK715.out) Try.underlying146 rfl (by kernel_rfl)) rfl ?_
  exact ⟨_, by first | rfl | (simp [errW_none, errW_some] <;> rfl) | (simp [*, errW_none, errW_some] <;> rfl), by (with_reducible repeat (first | apply Kd.R_alloc | apply Kd.R_drewN | apply Kd.R_drew)); exact Kd.R_mono (Kd.R_far (p := ⟨gb715, 1, none⟩) (Kd.R_far (p := ⟨gb715, 0, none⟩) (Kd.R_types HO719.out BK715.out (by decide)) (fun _ hk => hk.2) (.int .i64 a0)) (fun _ hk => hk.2) (.slice Ao5 t716.length co5)) (fun _ hk => trivial), by repeat (first | (with_reducible first | exact HB.out | apply below_alloc | apply pw_below_drewN | apply below_drew1 | refine below_set ?_ GE715.out) | exact HB.out)⟩

/-- A call of a value that is a function with arguments bound ahead. -/
theorem goesV_ {P : Program} {ops : Array Oper} {Q : Exit → Act → World → Prop} {oi : Oper} {N : Option Tmp} {a : Act} {w : World} {K : Act → World → Prop} {f : FuncId} {fn : Func} {x : Operand} {xs_ : Array Operand} {ts : Array TypeId} {bd : Array Value} (hf : P.funcs[f]? = some fn) (hname : (fn.name == "runtime.NumGoroutine") = false) (hb : fn.body.isSome = true) (args : Array Value)
    (hw : Region.wanted oi (yielded ops a.tmps) = true) (hN : oi.dst = N) (hop : oi.op = .call { callee := .value x, args := xs_, argTypes := ts }) (hx : a.eval x = .func (.func f) bd #[]) (hargs0 : bd.toList ++ xs_.toList.map a.eval = args.toList)
    (h : Calls P f args w fun e w' => ∃ v, e = .returned v ∧ K (a.put N v) w') : if Region.wanted oi (yielded ops a.tmps) = true then Oper.wp P oi a w K Q else K (a.put N undef) w := by
  have hargs : bd ++ xs_.map a.eval = args := by apply Array.toList_inj.1; rw [← hargs0]; simp
  refine call_ f args hw hN ?_ h
  have he := enters_ hf hname hb args w
  unfold execOp
  simp [hop, resolve, Deferred.ofValue, invoke, hx, hargs, he]

/-! ### neighbours_Rows: function 59 -/
mutual
def neighbours_Rows.j0 : Nat → Int → List Int → Bool → Int → List Int → Option (Int × (List (S90)) × Int)
  | 0, _, _, _, _, _ => none
  | k + 1, x0, x1, x23, x879000, x879001 => if x23 = true then (some (0, ([] : List (S90)), 2)) else (neighbours_Rows.l0 k x1 (x1.length : Int) 0 x879000 x879001 x0 ([] : List (S90)))
def neighbours_Rows.l0 : Nat → List Int → Int → Int → Int → List Int → Int → List (S90) → Option (Int × (List (S90)) × Int)
  | 0, _, _, _, _, _, _, _ => none
  | k + 1, x29, x30, x31, x879000, x879001, x880000, x880001 => if x31 < x30 then (if 0 ≤ x31 then (if x31 < (x29.length : Int) then ((neighbours_code_row.f k x879000 x879001 (rd x29 x31)).bind fun bt881 => (if x880001.length < 4398046511104 then (neighbours_Rows.l0 k x29 x30 (wrap64 (x31 + 1)) x879000 x879001 x880000 (x880001 ++ [(⟨bt881.1, bt881.2⟩ : S90)])) else (none))) else (none)) else (none)) else (some (x880000, x880001, 0))
end
def neighbours_Rows.f (k : Nat) (a0 : Int) (l1 : List Int) : Option (Int × (List (S90)) × Int) := (neighbours_of.f a0).bind fun bt873 => (if bt873.2.2 = 0 then (neighbours_Rows.j0 k a0 l1 (decide ((l1.length : Int) > 64)) bt873.1 bt873.2.1) else (neighbours_Rows.j0 k a0 l1 true bt873.1 bt873.2.1))
def neighbours_Rows.T9 : Bool × List (List Nat × List Nat) := (true, [([], []), ([0], [0]), ([], []), ([], []), ([2, 3], [2, 3]), ([4], [4]), ([1, 5, 4], [1, 5]), ([0, 1, 2, 3, 4, 5, 6], []), ([7, 6, 6, 0, 1, 2, 3, 4, 5, 6], [6, 7])])
def neighbours_Rows.B9 : List Nat := [0, 1, 0, 0, 12, 28, 63, 127, 255]
theorem neighbours_Rows.tab9 : rtab .any (opsOf Try.f59 9) = neighbours_Rows.T9 := by kernel_rfl
theorem neighbours_Rows.bits9 : waitsOk neighbours_Rows.T9.2 neighbours_Rows.B9 = true := by kernel_rfl
set_option maxHeartbeats 8000000 in
set_option maxRecDepth 100000 in
theorem neighbours_Rows.calls (k : Nat) (a0 : Int) (A1 : Option Addr) (c1 : Nat) (l1 : List Int) (r1 : Int) (r2 : List (S90)) (r3 : Int) (w : World) (hr1 : Kd.C (Kd.int .u64) w A1 l1.length l1) (hc1 : l1.length ≤ c1) (h : neighbours_Rows.f k a0 l1 = some (r1, r2, r3)) :
    Calls Try.prog 59 #[.int .i64 a0, .slice A1 l1.length c1] w fun e w' => ∃ v1_ : Value, e = .returned (.tuple #[.agg #[.int .i64 r1, v1_], .int .i64 r3]) ∧ Kd.S k90 90 w' w.heap.size (fun _ => True) v1_ r2 ∧ Below w.heap.size w w' := by
  have hu99 := Try.underlying99
  have hu146 := Try.underlying146
  have HR1 := Aside0.mk hr1
  have HC1 := Aside0.mk hc1
  clear hr1 hc1
  have HB := Aside0.mk (Below.refl w.heap.size w)
  have H : ((neighbours_of.f a0).bind fun bt873 => (if bt873.2.2 = 0 then (neighbours_Rows.j0 k a0 l1 (decide ((l1.length : Int) > 64)) bt873.1 bt873.2.1) else (neighbours_Rows.j0 k a0 l1 true bt873.1 bt873.2.1))) = some (r1, r2, r3) := h
  clear h
  replace H := Option.bind_eq_some_iff.mp H
  obtain ⟨⟨t873, t874, t877⟩, A30, H⟩ := H
  replace H : (if t877 = 0 then (neighbours_Rows.j0 k a0 l1 (decide ((l1.length : Int) > 64)) t873 t874) else (neighbours_Rows.j0 k a0 l1 true t873 t874)) = some (r1, r2, r3) := H
  have A3 := Aside0.mk A30
  clear A30
  have HC4 := Aside0.mk H
  clear H
  go_enter Try.func59, Try.ntmps59
  go_upto_region 2 with (first | ((with_reducible refine gate_dst (N := 4) rfl ?_); (try (refine gate_guard (by rfl) ?_; dsimp only)); refine box_event ?hg (N := 4) ?hd (cs := #[.int .i64 0, .slice none 0 0]) (t := 99) ?hr ?_; (case hd => rfl); (case hg => rfl); (case hr => first | (go_simp; done) | (go_simp; rfl)); intro gb872 hg w5 hbox hb; have n0_ := Aside0.mk (below_step (by repeat (first | (with_reducible first | exact HB.out | apply below_alloc | apply pw_below_drewN | apply below_drew1) | exact HB.out)) hb); have n1_ := Aside0.mk (hbox); have n2_ := Aside0.mk ((by rw [hg]; exact (below_size (by repeat (first | (with_reducible first | exact HB.out | apply below_alloc | apply pw_below_drewN | apply below_drew1) | exact HB.out))) : w.heap.size ≤ gb872)); have n3_ := Aside0.mk ((by rw [hg]; exact (below_size (by repeat (first | (with_reducible first | exact HB.out | apply below_alloc | apply pw_below_drewN | apply below_drew1) | exact HB.out))) : w.heap.size ≤ gb872)); clear HB; have HB := n0_; have BK872 := n1_; have GW872 := n2_; have GE872 := n3_; clear n0_ n1_ n2_ n3_; clear hb hbox hg) | ((with_reducible refine gate_callee (f := 105) rfl ?_); refine goesL_ (some 14) rfl rfl Try.func105 (by kernel_rfl) rfl #[.int .i64 a0] rfl (by (try simp only [List.map_toArray, List.map_cons, List.map_nil]); first | done | rfl | (simp only [List.length_drop, List.length_take]; rfl)) ?_; (with_reducible refine (neighbours_of.calls a0 t873 t874 t877 _ A3.out).mono ?_); rintro e w6 ⟨v875, rfl, ho0, hb⟩; refine ⟨_, rfl, ?_⟩; have n0_ := Aside0.mk (Kd.R_lower ho0 (below_size (by repeat (first | (with_reducible first | exact HB.out | apply below_alloc | apply pw_below_drewN | apply below_drew1 | refine below_set ?_ GE872.out) | exact HB.out)))); have n1_ := Aside0.mk (blk_below (g := gb872) (o := .cells #[.int .i64 0, .slice none 0 0] 99 (0, 0)) (by (with_reducible repeat (first | refine blk_drewN ?_ _ | refine blk_drew ?_ | refine blk_alloc ?_ _)); exact BK872.out) hb); have n2_ := Aside0.mk (below_step (by repeat (first | (with_reducible first | exact HB.out | apply below_alloc | apply pw_below_drewN | apply below_drew1 | refine below_set ?_ GE872.out) | exact HB.out)) hb); clear BK872; clear HB; have HO876 := n0_; have BK872 := n1_; have HB := n2_; clear n0_ n1_ n2_; (try clear hb); (try clear hb2); (try clear hk); (try clear hi); (try clear ho0)) | ((with_reducible refine gate_dst (N := 6) rfl ?_); (try (refine gate_guard (by rfl) ?_; dsimp only)); refine box_event ?hg (N := 6) ?hd (cs := #[.int .i64 0, .slice none 0 0]) (t := 146) ?hr ?_; (case hd => rfl); (case hg => rfl); (case hr => first | (go_simp; done) | (go_simp; rfl)); intro gb878 hg w7 hbox hb; have n0_ := Aside0.mk (Kd.R_below (by (with_reducible repeat (first | apply Kd.R_alloc | apply Kd.R_drewN | apply Kd.R_drew)); exact HO876.out) hb); have n1_ := Aside0.mk (blk_below (g := gb872) (o := .cells #[.int .i64 0, .slice none 0 0] 99 (0, 0)) (by (with_reducible repeat (first | refine blk_drewN ?_ _ | refine blk_drew ?_ | refine blk_alloc ?_ _)); exact BK872.out) hb); have n2_ := Aside0.mk (below_step (by repeat (first | (with_reducible first | exact HB.out | apply below_alloc | apply pw_below_drewN | apply below_drew1 | refine below_set ?_ GE872.out) | exact HB.out)) hb); have n3_ := Aside0.mk (hbox); have n4_ := Aside0.mk ((by rw [hg]; exact (below_size (by repeat (first | (with_reducible first | exact HB.out | apply below_alloc | apply pw_below_drewN | apply below_drew1 | refine below_set ?_ GE872.out) | exact HB.out))) : w.heap.size ≤ gb878)); have n5_ := Aside0.mk ((by rw [hg]; exact (below_size (by repeat (first | (with_reducible first | exact HB.out | apply below_alloc | apply pw_below_drewN | apply below_drew1 | refine below_set ?_ GE872.out) | exact HB.out))) : w.heap.size ≤ gb878)); have n6_ := Aside0.mk ((by rw [hg]; exact Nat.ne_of_lt (blk_lt (g := gb872) (o := .cells #[.int .i64 0, .slice none 0 0] 99 (0, 0)) (by (with_reducible repeat (first | refine blk_drewN ?_ _ | refine blk_drew ?_ | refine blk_alloc ?_ _)); exact BK872.out)) : gb872 ≠ gb878)); have n7_ := Aside0.mk ((by rw [hg]; exact Nat.ne_of_gt (blk_lt (g := gb872) (o := .cells #[.int .i64 0, .slice none 0 0] 99 (0, 0)) (by (with_reducible repeat (first | refine blk_drewN ?_ _ | refine blk_drew ?_ | refine blk_alloc ?_ _)); exact BK872.out)) : gb878 ≠ gb872)); clear HO876; clear BK872; clear HB; have HO876 := n0_; have BK872 := n1_; have HB := n2_; have BK878 := n3_; have GW878 := n4_; have GE878 := n5_; have NB872_878 := n6_; have NB878_872 := n7_; clear n0_ n1_ n2_ n3_ n4_ n5_ n6_ n7_; clear hb hbox hg; have hnb8 := NB878_872.out; have hnc8 := NB872_878.out; have hcz9_0 : w7.cell? ⟨gb878, 0, none⟩ = some (.int .i64 0) := (blk_cell BK878.out 0).trans rfl; have hcz9_1 : w7.cell? ⟨gb878, 1, none⟩ = some (.slice none 0 0) := (blk_cell BK878.out 1).trans rfl; have hfz9_0 := blk_frozen BK878.out 0; have hfz9_1 := blk_frozen BK878.out 1; obtain ⟨Ao10, co10, eo10⟩ := Kd.R_slice HO876.out; subst eo10))
  (try simp only [Act.put, List.setIfInBounds_toArray, List.set_cons_zero, List.set_cons_succ])
  go_cut [23] (fun v23 wc => ∃ (kq : Nat) (x23_3 : Bool), v23 = .bool x23_3 ∧ Aside0 (neighbours_Rows.j0 kq a0 l1 x23_3 t873 t874 = some (r1, r2, r3)) ∧ Aside0 (kq ≤ k) ∧ Aside0 (Kd.R (Kd.int .u64) 25 wc w.heap.size (fun _ => True) (.slice Ao10 t874.length co10) t874) ∧ Aside0 (wc.heap[gb872]? = some (.cells #[.int .i64 0, (.slice none 0 0)] 99 (0, 0))) ∧ Aside0 (wc.heap[gb878]? = some (.cells #[.int .i64 t873, (.slice Ao10 t874.length co10)] 146 (0, 0))) ∧ Aside0 (Below w.heap.size w wc))
  case first =>
    have H := HC4.out
    clear HC4
    by_cases c11 : t877 = 0
    · rw [if_pos c11] at H
      have c11b0 : (t877 == 0) = true := beq_iff_eq.mpr c11
      have c11b1 : (t877 != 0) = false := bne_eq_false_iff_eq.mpr c11
      clear c11
      (first | rw [c11b0] | (simp only [i64_w, i32_w]; rw [c11b0]) | skip)
      have H' := Aside0.mk H
      clear H
      go_wp2
      go_meet
      case rel => exact ⟨_, (decide ((l1.length : Int) > 64)), (by first | rfl | (simp; done) | (simp [*]; done)), H', ⟨by first | omega | exact Nat.le_refl _⟩, ⟨by (with_reducible repeat (first | apply Kd.R_alloc | apply Kd.R_drewN | apply Kd.R_drew)); exact Kd.R_mono (Kd.R_far (p := ⟨gb878, 1, none⟩) (Kd.R_far (p := ⟨gb878, 0, none⟩) (Kd.R_types HO876.out BK878.out (by decide)) (fun _ hk => hk.2) (.int .i64 t873)) (fun _ hk => hk.2) (.slice Ao10 t874.length co10)) (fun _ hk => trivial)⟩, ⟨by (with_reducible repeat (first | refine blk_drewN ?_ _ | refine blk_drew ?_ | refine blk_alloc ?_ _)); refine blk_far ?_ NB872_878.out _; (with_reducible repeat (first | refine blk_drewN ?_ _ | refine blk_drew ?_ | refine blk_alloc ?_ _)); refine blk_far ?_ NB872_878.out _; (with_reducible repeat (first | refine blk_drewN ?_ _ | refine blk_drew ?_ | refine blk_alloc ?_ _)); exact BK872.out⟩, ⟨by (with_reducible repeat (first | refine blk_drewN ?_ _ | refine blk_drew ?_ | refine blk_alloc ?_ _)); refine blk_put (cs := #[.int .i64 t873, .slice none 0 0]) ?_ 1 _ rfl; (with_reducible repeat (first | refine blk_drewN ?_ _ | refine blk_drew ?_ | refine blk_alloc ?_ _)); refine blk_put (cs := #[.int .i64 0, .slice none 0 0]) ?_ 0 _ rfl; (with_reducible repeat (first | refine blk_drewN ?_ _ | refine blk_drew ?_ | refine blk_alloc ?_ _)); exact BK878.out⟩, ⟨by repeat (first | (with_reducible first | exact HB.out | apply below_alloc | apply pw_below_drewN | apply below_drew1 | refine below_set ?_ GE872.out | refine below_set ?_ GE878.out) | exact HB.out)⟩⟩
    · rw [if_neg c11] at H
      have c11b0 : (t877 == 0) = false := beq_eq_false_iff_ne.mpr c11
      have c11b1 : (t877 != 0) = true := bne_iff_ne.mpr c11
      (first | rw [c11b0] | (simp only [i64_w, i32_w]; rw [c11b0]) | skip)
      have H' := Aside0.mk H
      clear H
      go_wp2
      go_meet
      case rel => exact ⟨_, (true), (by first | rfl | (simp; done) | (simp [*]; done)), H', ⟨by first | omega | exact Nat.le_refl _⟩, ⟨by (with_reducible repeat (first | apply Kd.R_alloc | apply Kd.R_drewN | apply Kd.R_drew)); exact Kd.R_mono (Kd.R_far (p := ⟨gb878, 1, none⟩) (Kd.R_far (p := ⟨gb878, 0, none⟩) (Kd.R_types HO876.out BK878.out (by decide)) (fun _ hk => hk.2) (.int .i64 t873)) (fun _ hk => hk.2) (.slice Ao10 t874.length co10)) (fun _ hk => trivial)⟩, ⟨by (with_reducible repeat (first | refine blk_drewN ?_ _ | refine blk_drew ?_ | refine blk_alloc ?_ _)); refine blk_far ?_ NB872_878.out _; (with_reducible repeat (first | refine blk_drewN ?_ _ | refine blk_drew ?_ | refine blk_alloc ?_ _)); refine blk_far ?_ NB872_878.out _; (with_reducible repeat (first | refine blk_drewN ?_ _ | refine blk_drew ?_ | refine blk_alloc ?_ _)); exact BK872.out⟩, ⟨by (with_reducible repeat (first | refine blk_drewN ?_ _ | refine blk_drew ?_ | refine blk_alloc ?_ _)); refine blk_put (cs := #[.int .i64 t873, .slice none 0 0]) ?_ 1 _ rfl; (with_reducible repeat (first | refine blk_drewN ?_ _ | refine blk_drew ?_ | refine blk_alloc ?_ _)); refine blk_put (cs := #[.int .i64 0, .slice none 0 0]) ?_ 0 _ rfl; (with_reducible repeat (first | refine blk_drewN ?_ _ | refine blk_drew ?_ | refine blk_alloc ?_ _)); exact BK878.out⟩, ⟨by repeat (first | (with_reducible first | exact HB.out | apply below_alloc | apply pw_below_drewN | apply below_drew1 | refine below_set ?_ GE872.out | refine below_set ?_ GE878.out) | exact HB.out)⟩⟩
  case rest =>
    clear HC4
    try clear c1
    try clear p2
    try clear c5
    try clear c8
    try clear c10
    try clear c11
    try clear c11b0
    try clear c11b1
    try clear hcz9_0
    try clear hcz9_1
    try clear hfz9_0
    try clear hfz9_1
    obtain ⟨kq, x23_3, rfl, HA, HJ3, HO_879001, BK872, BK878, HB⟩ := hcut
    cases kq with
    | zero => exact absurd HA.out (by simp [neighbours_Rows.j0])
    | succ kj3 =>
      have H := HA.out
      clear HA
      simp only [neighbours_Rows.j0] at H
      by_cases c12 : x23_3 = true
      · subst c12
        have H1 : (some (0, ([] : List (S90)), 2)) = some (r1, r2, r3) := by rw [if_pos rfl] at H; exact H
        clear H
        have H := H1
        clear H1
        simp only [Option.some.injEq, Prod.mk.injEq] at H
        obtain ⟨rfl, rfl, rfl⟩ := H
        have hnb13 := NB872_878.out
        have hnc13 := NB878_872.out
        have hcz14_0 : wc.cell? ⟨gb872, 0, none⟩ = some (.int .i64 0) := (blk_cell BK872.out 0).trans rfl
        have hcz14_1 : wc.cell? ⟨gb872, 1, none⟩ = some (.slice none 0 0) := (blk_cell BK872.out 1).trans rfl
        have hfz14_0 := blk_frozen BK872.out 0
        have hfz14_1 := blk_frozen BK872.out 1
        go_wp2
        refine bodyPost_ret (results_ct rfl _ _ gb872 99 #[.int .i64 0, .slice none 0 0] (0, 0) _ rfl (by (with_reducible repeat (first | refine blk_drewN ?_ _ | refine blk_drew ?_ | refine blk_alloc ?_ _)); refine blk_put (cs := #[.int .i64 0, .slice none 0 0]) ?_ 1 _ rfl; (with_reducible repeat (first | refine blk_drewN ?_ _ | refine blk_drew ?_ | refine blk_alloc ?_ _)); refine blk_put (cs := #[.int .i64 0, .slice none 0 0]) ?_ 0 _ rfl; (with_reducible repeat (first | refine blk_drewN ?_ _ | refine blk_drew ?_ | refine blk_alloc ?_ _)); exact BK872.out) Try.underlying99 rfl (by kernel_rfl)) rfl ?_
        exact ⟨_, by first | rfl | (simp [errW_none, errW_some] <;> rfl) | (simp [*, errW_none, errW_some] <;> rfl), by first | exact Kd.S_nil _ _ _ _ _ | exact Kd.N_nil _ _ _ _ _ | exact Kd.V_nil _ _ _ _ _ | exact Kd.Q_nil _ _ _ _ _ | exact Kd.R_nil _ _ _ _ _, by repeat (first | (with_reducible first | exact HB.out | apply below_alloc | apply pw_below_drewN | apply below_drew1 | refine below_set ?_ GE872.out | refine below_set ?_ GE878.out) | exact HB.out)⟩
      · replace c12 := Bool.eq_false_iff.mpr c12
        subst c12
        have H1 : (neighbours_Rows.l0 kj3 l1 (l1.length : Int) 0 t873 t874 a0 ([] : List (S90))) = some (r1, r2, r3) := by rw [if_neg (show ¬ (false = true) by decide)] at H; exact H
        clear H
        have H := H1
        clear H1
        have H' := Aside0.mk H
        clear H
        have hnb15 := NB878_872.out
        have hnc15 := NB872_878.out
        have hcz16_0 : wc.cell? ⟨gb878, 0, none⟩ = some (.int .i64 t873) := (blk_cell BK878.out 0).trans rfl
        have hcz16_1 : wc.cell? ⟨gb878, 1, none⟩ = some (.slice Ao10 t874.length co10) := (blk_cell BK878.out 1).trans rfl
        have hfz16_0 := blk_frozen BK878.out 0
        have hfz16_1 := blk_frozen BK878.out 1
        go_wp2_with (first | ((with_reducible refine gate_dst (N := 9) rfl ?_); (try (refine gate_guard (by rfl) ?_; dsimp only)); refine box_event ?hg (N := 9) ?hd (cs := #[.int .i64 0, .slice none 0 0]) (t := 99) ?hr ?_; (case hd => rfl); (case hg => rfl); (case hr => first | (go_simp; done) | (go_simp; rfl)); intro gb879 hg w17 hbox hb; have n0_ := Aside0.mk (Kd.R_below (by (with_reducible repeat (first | apply Kd.R_alloc | apply Kd.R_drewN | apply Kd.R_drew)); exact HO_879001.out) hb); have n1_ := Aside0.mk (blk_below (g := gb872) (o := .cells #[.int .i64 0, .slice none 0 0] 99 (0, 0)) (by (with_reducible repeat (first | refine blk_drewN ?_ _ | refine blk_drew ?_ | refine blk_alloc ?_ _)); exact BK872.out) hb); have n2_ := Aside0.mk (blk_below (g := gb878) (o := .cells #[.int .i64 t873, .slice Ao10 t874.length co10] 146 (0, 0)) (by (with_reducible repeat (first | refine blk_drewN ?_ _ | refine blk_drew ?_ | refine blk_alloc ?_ _)); exact BK878.out) hb); have n3_ := Aside0.mk (below_step (by repeat (first | (with_reducible first | exact HB.out | apply below_alloc | apply pw_below_drewN | apply below_drew1 | refine below_set ?_ GE872.out | refine below_set ?_ GE878.out) | exact HB.out)) hb); have n4_ := Aside0.mk (hbox); have n5_ := Aside0.mk ((by rw [hg]; exact (below_size (by repeat (first | (with_reducible first | exact HB.out | apply below_alloc | apply pw_below_drewN | apply below_drew1 | refine below_set ?_ GE872.out | refine below_set ?_ GE878.out) | exact HB.out))) : w.heap.size ≤ gb879)); have n6_ := Aside0.mk ((by rw [hg]; exact (below_size (by repeat (first | (with_reducible first | exact HB.out | apply below_alloc | apply pw_below_drewN | apply below_drew1 | refine below_set ?_ GE872.out | refine below_set ?_ GE878.out) | exact HB.out))) : w.heap.size ≤ gb879)); have n7_ := Aside0.mk ((by rw [hg]; exact Nat.ne_of_lt (blk_lt (g := gb872) (o := .cells #[.int .i64 0, .slice none 0 0] 99 (0, 0)) (by (with_reducible repeat (first | refine blk_drewN ?_ _ | refine blk_drew ?_ | refine blk_alloc ?_ _)); exact BK872.out)) : gb872 ≠ gb879)); have n8_ := Aside0.mk ((by rw [hg]; exact Nat.ne_of_gt (blk_lt (g := gb872) (o := .cells #[.int .i64 0, .slice none 0 0] 99 (0, 0)) (by (with_reducible repeat (first | refine blk_drewN ?_ _ | refine blk_drew ?_ | refine blk_alloc ?_ _)); exact BK872.out)) : gb879 ≠ gb872)); have n9_ := Aside0.mk ((by rw [hg]; exact Nat.ne_of_lt (blk_lt (g := gb878) (o := .cells #[.int .i64 t873, .slice Ao10 t874.length co10] 146 (0, 0)) (by (with_reducible repeat (first | refine blk_drewN ?_ _ | refine blk_drew ?_ | refine blk_alloc ?_ _)); exact BK878.out)) : gb878 ≠ gb879)); have n10_ := Aside0.mk ((by rw [hg]; exact Nat.ne_of_gt (blk_lt (g := gb878) (o := .cells #[.int .i64 t873, .slice Ao10 t874.length co10] 146 (0, 0)) (by (with_reducible repeat (first | refine blk_drewN ?_ _ | refine blk_drew ?_ | refine blk_alloc ?_ _)); exact BK878.out)) : gb879 ≠ gb878)); clear HO_879001; clear BK872; clear BK878; clear HB; have HO_879001 := n0_; have BK872 := n1_; have BK878 := n2_; have HB := n3_; have BK879 := n4_; have GW879 := n5_; have GE879 := n6_; have NB872_879 := n7_; have NB879_872 := n8_; have NB878_879 := n9_; have NB879_878 := n10_; clear n0_ n1_ n2_ n3_ n4_ n5_ n6_ n7_ n8_ n9_ n10_; clear hb hbox hg; have hnb18 := NB879_872.out; have hnc18 := NB872_879.out; have hnb19 := NB879_878.out; have hnc19 := NB878_879.out; have hcz20_0 : w17.cell? ⟨gb879, 0, none⟩ = some (.int .i64 0) := (blk_cell BK879.out 0).trans rfl; have hcz20_1 : w17.cell? ⟨gb879, 1, none⟩ = some (.slice none 0 0) := (blk_cell BK879.out 1).trans rfl; have hfz20_0 := blk_frozen BK879.out 0; have hfz20_1 := blk_frozen BK879.out 1))
        go_loopg [31] kj3 (fun kq v31 w' => ∃ (x31_2 : Int) (x880001_2 : List (S90)) (u880001 : Value), v31 = .int .i64 x31_2 ∧ Aside0 (neighbours_Rows.l0 kq l1 (l1.length : Int) x31_2 t873 t874 a0 x880001_2 = some (r1, r2, r3)) ∧ Aside0 (kq ≤ kj3) ∧ Aside0 (Kd.R (Kd.int .u64) 25 w' w.heap.size (fun _ => True) (.slice Ao10 t874.length co10) t874) ∧ Aside0 (Kd.S k90 90 w' w.heap.size (fun k_ => some k_ ≠ ((.slice Ao10 t874.length co10) : Value).ownBlock) u880001 x880001_2) ∧ Aside0 (w'.heap[gb872]? = some (.cells #[.int .i64 0, (.slice none 0 0)] 99 (0, 0))) ∧ Aside0 (w'.heap[gb878]? = some (.cells #[.int .i64 t873, (.slice Ao10 t874.length co10)] 146 (0, 0))) ∧ Aside0 (w'.heap[gb879]? = some (.cells #[.int .i64 a0, u880001] 99 (0, 0))) ∧ Aside0 (Below w.heap.size w w'))
        case atStart => exact ⟨(0), (([] : List (S90))), (.slice none 0 0), (by first | rfl | (simp; done) | (simp [*]; done)), H', ⟨Nat.le_refl _⟩, ⟨by (with_reducible repeat (first | apply Kd.R_alloc | apply Kd.R_drewN | apply Kd.R_drew)); exact Kd.R_mono (Kd.R_far (p := ⟨gb879, 1, none⟩) (Kd.R_far (p := ⟨gb879, 0, none⟩) (Kd.R_types HO_879001.out BK879.out (by decide)) (fun _ hk => hk.2) (.int .i64 a0)) (fun _ hk => hk.2) (.slice none 0 0)) (fun _ hk => trivial)⟩, ⟨by first | exact Kd.S_nil _ _ _ _ _ | exact Kd.N_nil _ _ _ _ _ | exact Kd.V_nil _ _ _ _ _ | exact Kd.Q_nil _ _ _ _ _ | exact Kd.R_nil _ _ _ _ _⟩, ⟨by (with_reducible repeat (first | refine blk_drewN ?_ _ | refine blk_drew ?_ | refine blk_alloc ?_ _)); refine blk_far ?_ NB872_879.out _; (with_reducible repeat (first | refine blk_drewN ?_ _ | refine blk_drew ?_ | refine blk_alloc ?_ _)); refine blk_far ?_ NB872_879.out _; (with_reducible repeat (first | refine blk_drewN ?_ _ | refine blk_drew ?_ | refine blk_alloc ?_ _)); exact BK872.out⟩, ⟨by (with_reducible repeat (first | refine blk_drewN ?_ _ | refine blk_drew ?_ | refine blk_alloc ?_ _)); refine blk_far ?_ NB878_879.out _; (with_reducible repeat (first | refine blk_drewN ?_ _ | refine blk_drew ?_ | refine blk_alloc ?_ _)); refine blk_far ?_ NB878_879.out _; (with_reducible repeat (first | refine blk_drewN ?_ _ | refine blk_drew ?_ | refine blk_alloc ?_ _)); exact BK878.out⟩, ⟨by (with_reducible repeat (first | refine blk_drewN ?_ _ | refine blk_drew ?_ | refine blk_alloc ?_ _)); refine blk_put (cs := #[.int .i64 a0, .slice none 0 0]) ?_ 1 _ rfl; (with_reducible repeat (first | refine blk_drewN ?_ _ | refine blk_drew ?_ | refine blk_alloc ?_ _)); refine blk_put (cs := #[.int .i64 0, .slice none 0 0]) ?_ 0 _ rfl; (with_reducible repeat (first | refine blk_drewN ?_ _ | refine blk_drew ?_ | refine blk_alloc ?_ _)); exact BK879.out⟩, ⟨by repeat (first | (with_reducible first | exact HB.out | apply below_alloc | apply pw_below_drewN | apply below_drew1 | refine below_set ?_ GE872.out | refine below_set ?_ GE878.out | refine below_set ?_ GE879.out) | exact HB.out)⟩⟩
        case round =>
          clear H'
          try clear c1
          try clear p2
          try clear c5
          try clear c8
          try clear c10
          try clear c11
          try clear c11b0
          try clear c11b1
          try clear c12
          try clear c13
          try clear c15
          try clear c18
          try clear c19
          try clear hcz14_0
          try clear hcz14_1
          try clear hcz16_0
          try clear hcz16_1
          try clear hcz20_0
          try clear hcz20_1
          try clear hcz9_0
          try clear hcz9_1
          try clear hfz14_0
          try clear hfz14_1
          try clear hfz16_0
          try clear hfz16_1
          try clear hfz20_0
          try clear hfz20_1
          try clear hfz9_0
          try clear hfz9_1
          try clear p2
          obtain ⟨x31_2, x880001_2, u880001, rfl, HA, HK2, HO_879001, HO_880001, BK872, BK878, BK879, HB⟩ := hrel
          cases gk with
          | zero => exact absurd HA.out (by simp [neighbours_Rows.l0])
          | succ k2 =>
            have H := HA.out
            clear HA
            simp only [neighbours_Rows.l0] at H
            by_cases c21 : x31_2 < (l1.length : Int)
            · rw [if_pos c21] at H
              have c21b0 : decide (x31_2 < (l1.length : Int)) = true := decide_eq_true c21
              clear c21
              by_cases c22 : 0 ≤ x31_2
              · rw [if_pos c22] at H
                have c22b0 : decide (0 ≤ x31_2) = true := decide_eq_true c22
                clear c22
                by_cases c23 : x31_2 < (l1.length : Int)
                · rw [if_pos c23] at H
                  have c23b0 : decide (x31_2 < (l1.length : Int)) = true := decide_eq_true c23
                  clear c23
                  replace H := Option.bind_eq_some_iff.mp H
                  obtain ⟨⟨t881, t882⟩, A240, H⟩ := H
                  replace H : (if x880001_2.length < 4398046511104 then (neighbours_Rows.l0 k2 l1 (l1.length : Int) (wrap64 (x31_2 + 1)) t873 t874 a0 (x880001_2 ++ [(⟨t881, t882⟩ : S90)])) else (none)) = some (r1, r2, r3) := H
                  have A24 := Aside0.mk A240
                  clear A240
                  by_cases c25 : x880001_2.length < 4398046511104
                  · rw [if_pos c25] at H
                    have LMc25 := Aside0.mk c25
                    clear c25
                    obtain ⟨y885, hy885⟩ : ∃ y_ : List (S90), y_ = (x880001_2 ++ [(⟨t881, t882⟩ : S90)]) := ⟨_, rfl⟩
                    replace H : (neighbours_Rows.l0 k2 l1 (l1.length : Int) (wrap64 (x31_2 + 1)) t873 t874 a0 y885) = some (r1, r2, r3) := by first | (rw [hy885]; with_reducible exact H) | (have H2_ := (Option.bind_some _ _).symm.trans H; rw [hy885]; with_reducible exact H2_) | (have H2_ := (Option.bind_some _ _).symm.trans H; with_reducible exact H2_) | with_reducible exact H | (rw [hy885]; exact H) | exact H
                    have Ny885 := Aside0.mk hy885
                    clear hy885
                    have H' := Aside0.mk H
                    clear H
                    have p880 : 0 ≤ (x31_2 : Int) := of_decide_eq_true (by first | (with_reducible assumption) | assumption)
                    have q880 : x31_2 < (l1.length : Int) := of_decide_eq_true (by first | (with_reducible assumption) | assumption)
                    obtain ⟨ad880, e880, hx880_0⟩ := Kd.at_int HR1.out x31_2 p880 q880
                    cases e880
                    replace hx880_0 := (HB.out.cell (World.block_lt_of_cell? w _ hx880_0)).trans hx880_0
                    replace p880 := eq_true p880
                    replace q880 := eq_true q880
                    try go_wp2
                    have n0_ := Aside0.mk (Kd.R_drew HO_879001.out)
                    have n1_ := Aside0.mk (Kd.S_drew HO_880001.out)
                    have n2_ := Aside0.mk (blk_drew BK872.out)
                    have n3_ := Aside0.mk (blk_drew BK878.out)
                    have n4_ := Aside0.mk (blk_drew BK879.out)
                    have n5_ := Aside0.mk (below_drew1 HB.out)
                    clear HO_879001
                    clear HO_880001
                    clear BK872
                    clear BK878
                    clear BK879
                    clear HB
                    have HO_879001 := n0_
                    have HO_880001 := n1_
                    have BK872 := n2_
                    have BK878 := n3_
                    have BK879 := n4_
                    have HB := n5_
                    clear n0_ n1_ n2_ n3_ n4_ n5_
                    refine start_ (n := 9) (S := fun w' => w'.cell? ⟨gb879, 0, none⟩ = some (.int .i64 a0) ∧ w'.cell? ⟨gb879, 1, none⟩ = some (u880001) ∧ w'.cell? ⟨gb878, 0, none⟩ = some (.int .i64 t873) ∧ w'.cell? ⟨gb878, 1, none⟩ = some (.slice Ao10 t874.length co10)) (ds := [8]) #[false, false, false, false, false, false, false, false, false] (by kernel_rfl) rfl rfl ⟨(blk_cell BK879.out 0).trans rfl, (blk_cell BK879.out 1).trans rfl, (blk_cell BK878.out 0).trans rfl, (blk_cell BK878.out 1).trans rfl⟩ (fun hHeld => ?_); refine with_tabW neighbours_Rows.tab9 neighbours_Rows.bits9 (fun HT_ HW_ => ?_)
                    generalize wr.drew = w26 at HO_879001 HO_880001 BK872 BK878 BK879 HB hHeld ⊢
                    refine pure_ (i := 0) (N := some 35) (v := ?_) (a' := ?_) #[true, false, false, false, false, false, false, false, false] rfl rfl (any_of HT_.out (by kernel_rfl)) (fun _ _ _ h => h) (Or.inl ⟨by rfl, ?_⟩) ?_ ?_
                    rotate_left
                    · intro w'
                      go_simp
                      with_reducible rfl
                    rotate_left
                    · simp only [Act.put, List.setIfInBounds_toArray, List.set_cons_zero, List.set_cons_succ, i64_w, i32_w]
                      rfl
                    refine pure_ (i := 3) (N := some 38) (v := ?_) (a' := ?_) #[true, false, false, true, false, false, false, false, false] rfl rfl (any_of HT_.out (by kernel_rfl)) (fun _ _ _ h => h) (Or.inl ⟨by rfl, ?_⟩) ?_ ?_
                    rotate_left
                    · intro w'
                      go_simp
                      with_reducible rfl
                    rotate_left
                    · simp only [Act.put, List.setIfInBounds_toArray, List.set_cons_zero, List.set_cons_succ, i64_w, i32_w]
                      rfl
                    refine take_ (i := 1) (N := some 36) (v := ?_) (a' := ?_) #[true, true, false, true, false, false, false, false, false] rfl rfl (take_ofW HT_.out HW_.out (by kernel_rfl)) (fun _ _ _ h => h) (Or.inl ⟨by rfl, ?_⟩) hHeld ?_ ?_
                    rotate_left
                    · rintro w' ⟨s0, s1, s2, s3⟩
                      go_simp
                      with_reducible rfl
                    rotate_left
                    · simp only [Act.put, List.setIfInBounds_toArray, List.set_cons_zero, List.set_cons_succ, i64_w, i32_w]
                      rfl
                    refine take_ (i := 2) (N := some 37) (v := ?_) (a' := ?_) #[true, true, true, true, false, false, false, false, false] rfl rfl (take_ofW HT_.out HW_.out (by kernel_rfl)) (fun _ _ _ h => h) (Or.inl ⟨by rfl, ?_⟩) hHeld ?_ ?_
                    rotate_left
                    · rintro w' ⟨s0, s1, s2, s3⟩
                      go_simp
                      with_reducible rfl
                    rotate_left
                    · simp only [Act.put, List.setIfInBounds_toArray, List.set_cons_zero, List.set_cons_succ, i64_w, i32_w]
                      rfl
                    refine one_ (i := 4) (N := some 39) #[true, true, true, true, true, false, false, false, false] rfl rfl (one_of HT_.out (by kernel_rfl)) (by decide) (fun K hK => ?_)
                    refine goesV_ Try.func107 (by kernel_rfl) rfl #[.agg #[.int .i64 t873, .slice Ao10 t874.length co10], .int .u64 (rd l1 x31_2)] (by rfl) rfl rfl (by rfl) (by rfl) ?_
                    with_reducible refine (neighbours_code_row.calls k2 t873 _ _ t874 (rd l1 x31_2) t881 t882 _ ?side1 ?side2 A24.out).mono ?_
                    (case side1 => repeat (first | exact (Kd.R_reads' HO_879001.out).2.2 | (with_reducible refine Kd.C_alloc ?_ _) | (with_reducible refine Kd.C_drewN ?_ _) | (with_reducible refine Kd.C_drew ?_)))
                    (case side2 => exact (Kd.R_reads' HO_879001.out).2.1)
                    rintro e w27 ⟨v883, rfl, ho0, hb⟩
                    refine ⟨_, rfl, ?_⟩
                    have n0_ := Aside0.mk (Kd.R_elder' (by (with_reducible repeat (first | apply Kd.R_alloc | apply Kd.R_drewN | apply Kd.R_drew)); exact HO_879001.out) (Kd.R_base ho0) hb)
                    have n1_ := Aside0.mk (Kd.S_elder' (by (with_reducible repeat (first | apply Kd.S_alloc | apply Kd.S_drewN | apply Kd.S_drew)); exact HO_880001.out) (Kd.R_base ho0) hb)
                    have n2_ := Aside0.mk (Kd.R_lower (Kd.R_new' ho0 (Kd.R_lt (by (with_reducible repeat (first | apply Kd.R_alloc | apply Kd.R_drewN | apply Kd.R_drew)); exact HO_879001.out))) (below_size (by repeat (first | (with_reducible first | exact HB.out | apply below_alloc | apply pw_below_drewN | apply below_drew1 | refine below_set ?_ GE872.out | refine below_set ?_ GE878.out | refine below_set ?_ GE879.out) | exact HB.out))))
                    have n3_ := Aside0.mk (blk_below (g := gb872) (o := .cells #[.int .i64 0, .slice none 0 0] 99 (0, 0)) (by (with_reducible repeat (first | refine blk_drewN ?_ _ | refine blk_drew ?_ | refine blk_alloc ?_ _)); exact BK872.out) hb)
                    have n4_ := Aside0.mk (blk_below (g := gb878) (o := .cells #[.int .i64 t873, .slice Ao10 t874.length co10] 146 (0, 0)) (by (with_reducible repeat (first | refine blk_drewN ?_ _ | refine blk_drew ?_ | refine blk_alloc ?_ _)); exact BK878.out) hb)
                    have n5_ := Aside0.mk (blk_below (g := gb879) (o := .cells #[.int .i64 a0, u880001] 99 (0, 0)) (by (with_reducible repeat (first | refine blk_drewN ?_ _ | refine blk_drew ?_ | refine blk_alloc ?_ _)); exact BK879.out) hb)
                    have n6_ := Aside0.mk (below_step (by repeat (first | (with_reducible first | exact HB.out | apply below_alloc | apply pw_below_drewN | apply below_drew1 | refine below_set ?_ GE872.out | refine below_set ?_ GE878.out | refine below_set ?_ GE879.out) | exact HB.out)) hb)
                    clear HO_879001
                    clear HO_880001
                    clear BK872
                    clear BK878
                    clear BK879
                    clear HB
                    have HO_879001 := n0_
                    have HO_880001 := n1_
                    have HO884 := n2_
                    have BK872 := n3_
                    have BK878 := n4_
                    have BK879 := n5_
                    have HB := n6_
                    clear n0_ n1_ n2_ n3_ n4_ n5_ n6_
                    (try clear hb)
                    (try clear hb2)
                    (try clear hk)
                    (try clear hi)
                    (try clear ho0)
                    obtain ⟨Ao29, co29, eo29⟩ := Kd.R_slice HO884.out
                    (first | subst eo29 | (injection eo29 with f1_ f2_ f3_; have f4_ := f1_.symm; have f5_ := f3_.symm; clear f1_ f2_ f3_; subst f4_; subst f5_))
                    refine hK.out _ _ ⟨(blk_cell BK879.out 0).trans rfl, (blk_cell BK879.out 1).trans rfl, (blk_cell BK878.out 0).trans rfl, (blk_cell BK878.out 1).trans rfl⟩ (fun hHeld => ?_)
                    clear hK K
                    refine norm_ (a' := ?_) ?_ ?_
                    rotate_left
                    · show Act.put _ (some 39) _ = _
                      simp only [Act.put, List.setIfInBounds_toArray, List.set_cons_zero, List.set_cons_succ, i64_w, i32_w]
                      rfl
                    refine one_ (i := 5) (N := some 40) #[true, true, true, true, true, true, false, false, false] rfl rfl (one_of HT_.out (by kernel_rfl)) (by decide) (fun K hK => ?_)
                    refine value_ (w1 := ?_) (v := ?_) (by rfl) rfl ?_ ?_
                    rotate_left 2
                    · go_simp
                      constructor
                      · rfl
                      · rfl
                    refine hK.out _ _ ⟨(blk_cell (blk_alloc BK879.out _) 0).trans rfl, (blk_cell (blk_alloc BK879.out _) 1).trans rfl, (blk_cell (blk_alloc BK878.out _) 0).trans rfl, (blk_cell (blk_alloc BK878.out _) 1).trans rfl⟩ (fun hHeld => ?_)
                    clear hK K
                    refine norm_ (a' := ?_) ?_ ?_
                    rotate_left
                    · show Act.put _ (some 40) _ = _
                      simp only [Act.put, List.setIfInBounds_toArray, List.set_cons_zero, List.set_cons_succ, i64_w, i32_w]
                      rfl
                    refine one_ (i := 6) (N := some 41) #[true, true, true, true, true, true, true, false, false] rfl rfl (one_of HT_.out (by kernel_rfl)) (by decide) (fun K hK => ?_)
                    refine Kd.S_append_step k90 (w0 := w) w.heap.size (by rfl) (.tmp 36) (.tmp 40) 97 90 (.agg #[(.int .i64 0), (.slice none 0 0)]) 32 rfl Try.underlying97 info90 rfl (by decide) (by omega) u880001 x880001_2 (⟨t881, t882⟩ : S90) [.int .i64 t881, .slice Ao29 t882.length co29] (fun k_ => some k_ ≠ (.slice Ao10 t874.length co10 : Value).ownBlock) (fun k_ => some k_ = (.slice Ao29 t882.length co29 : Value).ownBlock) rfl rfl ?aP (fun k_ hk_ => ((Kd.R_mono (ok' := fun k_ => ((fun k_ => some k_ ≠ (.slice Ao10 t874.length co10 : Value).ownBlock)) k_ ∧ some k_ ≠ (u880001 : Value).ownBlock) (Kd.R_apart' (HO884.out) (Kd.S_typed HO_880001.out) (by decide)) (fun k_ hk => ⟨hk.1.2, hk.2⟩))).1 k_ hk_.symm) ?aF ?aO ?aB ?aS ?aL ?_
                    (case aP => exact k90_mkM _ _ _ (⟨t881, t882⟩ : S90) (Kd.R_mono (Kd.R_tight rfl (Kd.R_mono (ok' := fun k_ => ((fun k_ => some k_ ≠ (.slice Ao10 t874.length co10 : Value).ownBlock)) k_ ∧ some k_ ≠ (u880001 : Value).ownBlock) (Kd.R_apart' (HO884.out) (Kd.S_typed HO_880001.out) (by decide)) (fun k_ hk => ⟨hk.1.2, hk.2⟩))) (fun _ h_ => h_)))
                    (case aB => exact (by repeat (first | (with_reducible first | exact HB.out | apply below_alloc | apply pw_below_drewN | apply below_drew1 | refine below_set ?_ GE872.out | refine below_set ?_ GE878.out | refine below_set ?_ GE879.out) | exact HB.out)))
                    (case aF => exact (fun k_ hk => Kd.fresh' (Kd.R_lt (by (with_reducible repeat (first | apply Kd.R_alloc | apply Kd.R_drewN | apply Kd.R_drew)); exact HO_879001.out)) k_ hk))
                    (case aO => exact (by (with_reducible repeat (first | apply Kd.S_alloc | apply Kd.S_drewN | apply Kd.S_drew)); exact Kd.S_mono HO_880001.out (fun k_ hk => ⟨hk.1, fun e_ => hk.2 e_⟩)))
                    (case aS => exact (below_size (by repeat (first | (with_reducible first | exact HB.out | apply below_alloc | apply pw_below_drewN | apply below_drew1 | refine below_set ?_ GE872.out | refine below_set ?_ GE878.out | refine below_set ?_ GE879.out) | exact HB.out))))
                    (case aL => have := LMc25.out; omega)
                    intro v886 w28 ho hb hg hat
                    rw [← Ny885.out] at ho
                    have n0_ := Aside0.mk (Kd.R_over' (by (with_reducible repeat (first | apply Kd.R_alloc | apply Kd.R_drewN | apply Kd.R_drew)); exact HO_879001.out) (Kd.S_typed (by (with_reducible repeat (first | apply Kd.S_alloc | apply Kd.S_drewN | apply Kd.S_drew)); exact HO_880001.out)) (by decide) hg)
                    have n1_ := Aside0.mk (blk_grown (g := gb872) (o := .cells #[.int .i64 0, .slice none 0 0] 99 (0, 0)) (by (with_reducible repeat (first | refine blk_drewN ?_ _ | refine blk_drew ?_ | refine blk_alloc ?_ _)); exact BK872.out) hg (Kd.S_ne HO_880001.out BK872.out (by decide)))
                    have n2_ := Aside0.mk (blk_grown (g := gb878) (o := .cells #[.int .i64 t873, .slice Ao10 t874.length co10] 146 (0, 0)) (by (with_reducible repeat (first | refine blk_drewN ?_ _ | refine blk_drew ?_ | refine blk_alloc ?_ _)); exact BK878.out) hg (Kd.S_ne HO_880001.out BK878.out (by decide)))
                    have n3_ := Aside0.mk (blk_grown (g := gb879) (o := .cells #[.int .i64 a0, u880001] 99 (0, 0)) (by (with_reducible repeat (first | refine blk_drewN ?_ _ | refine blk_drew ?_ | refine blk_alloc ?_ _)); exact BK879.out) hg (Kd.S_ne HO_880001.out BK879.out (by decide)))
                    have n4_ := Aside0.mk (hb)
                    have n5_ := Aside0.mk (ho)
                    clear HO_879001
                    clear BK872
                    clear BK878
                    clear BK879
                    clear HB
                    clear HO_880001
                    clear HO884
                    have HO_879001 := n0_
                    have BK872 := n1_
                    have BK878 := n2_
                    have BK879 := n3_
                    have HB := n4_
                    have HO887 := n5_
                    clear n0_ n1_ n2_ n3_ n4_ n5_
                    clear ho hb hg hat
                    obtain ⟨Ao30, co30, eo30⟩ := Kd.S_slice HO887.out
                    (first | subst eo30 | (injection eo30 with f1_ f2_ f3_; have f4_ := f1_.symm; have f5_ := f3_.symm; clear f1_ f2_ f3_; subst f4_; subst f5_))
                    refine hK.out _ _ ⟨(blk_cell BK879.out 0).trans rfl, (blk_cell BK879.out 1).trans rfl, (blk_cell BK878.out 0).trans rfl, (blk_cell BK878.out 1).trans rfl⟩ (fun hHeld => ?_)
                    clear hK K
                    refine norm_ (a' := ?_) ?_ ?_
                    rotate_left
                    · show Act.put _ (some 41) _ = _
                      simp only [Act.put, List.setIfInBounds_toArray, List.set_cons_zero, List.set_cons_succ, i64_w, i32_w]
                      rfl
                    refine pure_ (i := 7) (N := some 42) (v := ?_) (a' := ?_) #[true, true, true, true, true, true, true, true, false] rfl rfl (any_of HT_.out (by kernel_rfl)) (fun _ _ _ h => h) (Or.inl ⟨by rfl, ?_⟩) ?_ ?_
                    rotate_left
                    · intro w'
                      go_simp
                      with_reducible rfl
                    rotate_left
                    · simp only [Act.put, List.setIfInBounds_toArray, List.set_cons_zero, List.set_cons_succ, i64_w, i32_w]
                      rfl
                    refine last_ (i := 8) (N := none) #[true, true, true, true, true, true, true, true, true] rfl rfl (one_of HT_.out (by kernel_rfl)) (by decide) (fun K hK => ?_)
                    have hs31 : w28.cell? ⟨gb879, 1, none⟩ = some (u880001) := (blk_cell BK879.out 1).trans rfl
                    have hfs31 := blk_frozen BK879.out 1
                    have hns31_0 := NB872_879.out
                    have hns31_1 := NB878_879.out
                    have hms31_0 := NB879_872.out
                    have hms31_1 := NB879_878.out
                    refine skip_ (w1 := ?_) (by rfl) rfl ?_ ?_
                    rotate_left
                    · go_simp
                      rfl
                    refine hK.out _ _ ?_
                    clear hK K
                    refine done_ (done_of HT_.out (by kernel_rfl)) ?_
                    try go_wp2
                    go_roundg k2
                    case measure => have := HJ3.out; have := HK2.out; omega
                    case rel => exact ⟨(wrap64 (x31_2 + 1)), (y885), (.slice Ao30 y885.length co30), (by first | rfl | (simp; done) | (simp [*]; done)), H', ⟨by have := HJ3.out; have := HK2.out; omega⟩, ⟨by (with_reducible repeat (first | apply Kd.R_alloc | apply Kd.R_drewN | apply Kd.R_drew)); exact Kd.R_mono (Kd.R_far (p := ⟨gb879, 1, none⟩) (Kd.R_types HO_879001.out BK879.out (by decide)) (fun _ hk => hk.2) (.slice Ao30 y885.length co30)) (fun _ hk => trivial)⟩, ⟨by (with_reducible repeat (first | apply Kd.S_alloc | apply Kd.S_drewN | apply Kd.S_drew)); exact Kd.S_mono (Kd.S_far (p := ⟨gb879, 1, none⟩) (Kd.S_types HO887.out BK879.out (by decide)) (fun _ hk => hk.2) (.slice Ao30 y885.length co30)) (fun _ hk => hk.1)⟩, ⟨by (with_reducible repeat (first | refine blk_drewN ?_ _ | refine blk_drew ?_ | refine blk_alloc ?_ _)); refine blk_far ?_ NB872_879.out _; (with_reducible repeat (first | refine blk_drewN ?_ _ | refine blk_drew ?_ | refine blk_alloc ?_ _)); exact BK872.out⟩, ⟨by (with_reducible repeat (first | refine blk_drewN ?_ _ | refine blk_drew ?_ | refine blk_alloc ?_ _)); refine blk_far ?_ NB878_879.out _; (with_reducible repeat (first | refine blk_drewN ?_ _ | refine blk_drew ?_ | refine blk_alloc ?_ _)); exact BK878.out⟩, ⟨by (with_reducible repeat (first | refine blk_drewN ?_ _ | refine blk_drew ?_ | refine blk_alloc ?_ _)); refine blk_put (cs := #[.int .i64 a0, u880001]) ?_ 1 _ rfl; (with_reducible repeat (first | refine blk_drewN ?_ _ | refine blk_drew ?_ | refine blk_alloc ?_ _)); exact BK879.out⟩, ⟨by repeat (first | (with_reducible first | exact HB.out | apply below_alloc | apply pw_below_drewN | apply below_drew1 | refine below_set ?_ GE872.out | refine below_set ?_ GE878.out | refine below_set ?_ GE879.out) | exact HB.out)⟩⟩
                  · rw [if_neg c25] at H
                    exact absurd H (by simp)
                · rw [if_neg c23] at H
                  exact absurd H (by simp)
              · rw [if_neg c22] at H
                exact absurd H (by simp)
            · rw [if_neg c21] at H
              have c21b0 : decide (x31_2 < (l1.length : Int)) = false := decide_eq_false c21
              clear c21
              simp only [Option.some.injEq, Prod.mk.injEq] at H
              obtain ⟨rfl, rfl, rfl⟩ := H
              have hnb32 := NB879_872.out
              have hnc32 := NB872_879.out
              have hnb33 := NB879_878.out
              have hnc33 := NB878_879.out
              have hcz34_0 : wr.cell? ⟨gb879, 0, none⟩ = some (.int .i64 a0) := (blk_cell BK879.out 0).trans rfl
              have hcz34_1 : wr.cell? ⟨gb879, 1, none⟩ = some (u880001) := (blk_cell BK879.out 1).trans rfl
              have hfz34_0 := blk_frozen BK879.out 0
              have hfz34_1 := blk_frozen BK879.out 1
              have hnb35 := NB872_878.out
              have hnc35 := NB878_872.out
              have hcz36_0 : wr.cell? ⟨gb872, 0, none⟩ = some (.int .i64 0) := (blk_cell BK872.out 0).trans rfl
              have hcz36_1 : wr.cell? ⟨gb872, 1, none⟩ = some (.slice none 0 0) := (blk_cell BK872.out 1).trans rfl
              have hfz36_0 := blk_frozen BK872.out 0
              have hfz36_1 := blk_frozen BK872.out 1
              obtain ⟨Ao37, co37, eo37⟩ := Kd.S_slice HO_880001.out
              subst eo37
              go_wp2
              refine bodyPost_ret (results_ct rfl _ _ gb872 99 #[.int .i64 a0, .slice Ao37 x880001_2.length co37] (0, 0) _ rfl (by (with_reducible repeat (first | refine blk_drewN ?_ _ | refine blk_drew ?_ | refine blk_alloc ?_ _)); refine blk_put (cs := #[.int .i64 a0, .slice none 0 0]) ?_ 1 _ rfl; (with_reducible repeat (first | refine blk_drewN ?_ _ | refine blk_drew ?_ | refine blk_alloc ?_ _)); refine blk_put (cs := #[.int .i64 0, .slice none 0 0]) ?_ 0 _ rfl; (with_reducible repeat (first | refine blk_drewN ?_ _ | refine blk_drew ?_ | refine blk_alloc ?_ _)); exact BK872.out) Try.underlying99 rfl (by kernel_rfl)) rfl ?_
              exact ⟨_, by first | rfl | (simp [errW_none, errW_some] <;> rfl) | (simp [*, errW_none, errW_some] <;> rfl), by (with_reducible repeat (first | apply Kd.S_alloc | apply Kd.S_drewN | apply Kd.S_drew)); exact Kd.S_mono (Kd.S_far (p := ⟨gb872, 1, none⟩) (Kd.S_far (p := ⟨gb872, 0, none⟩) (Kd.S_types HO_880001.out BK872.out (by decide)) (fun _ hk => hk.2) (.int .i64 a0)) (fun _ hk => hk.2) (.slice Ao37 x880001_2.length co37)) (fun _ hk => trivial), by repeat (first | (with_reducible first | exact HB.out | apply below_alloc | apply pw_below_drewN | apply below_drew1 | refine below_set ?_ GE872.out | refine below_set ?_ GE878.out | refine below_set ?_ GE879.out) | exact HB.out)⟩

end Go.Proofs.Ytaofanhdmfdlmaa.Print

