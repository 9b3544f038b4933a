-- PRINTED by print.py (a twelfth state) out of the translation. Not trusted: Lean checks it.
import Derived.Test.YtaofanhdmfdlmaaPrint0
import Derived.Test.YtaofanhdmfdlmaaPrint37
import Derived.Test.YtaofanhdmfdlmaaPrint39
namespace Go.Proofs.Ytaofanhdmfdlmaa.Print
open Go.RowKit Go.Proofs.YtaofanhdmfdlmaaW.PrintWords Go.Proofs.YtaofanhdmfdlmaaW.PrintLast Go.Proofs.YtaofanhdmfdlmaaW.PrintMore
attribute [local go_sem] max2_int min2_int max_two min_two max_three min_three max_four min_four   -- for this text's walks alone
set_option linter.unusedVariables false
set_option linter.unusedSimpArgs false

/-! ### downpourref06_Some: function 28 -/
def downpourref06_Some.l0 : Nat → Int → Int → Int → Int → List Int → Int → List Int → Option (Int × List Int)
  | 0, _, _, _, _, _, _, _ => none
  | k + 1, x1, x2, x9, x456000, x456001, x457000, x457001 => if x9 < x1 then ((downpourref06_in.f k x456001 x2 x9).bind fun t457 => (if t457 = true then (if x457001.length < 17592186044416 then (downpourref06_Some.l0 k x1 x2 (wrap64 (x9 + 1)) x456000 x456001 x457000 (x457001 ++ [x9])) else (none)) else (downpourref06_Some.l0 k x1 x2 (wrap64 (x9 + 1)) x456000 x456001 x457000 x457001))) else (some (x457000, x457001))
def downpourref06_Some.f (k : Nat) (a0 : Int) (a1 : Int) (a2 : Int) : Option (Int × List Int) := (downpourref06_Shuffle.f k a0 a1).bind fun bt451 => (downpourref06_Some.l0 k a1 a2 0 bt451.1 bt451.2 bt451.1 ([] : List Int))
theorem downpourref06_Some.mono_l : ∀ k, (∀ y0 y1 y2 y3 y4 y5 y6, LeO (downpourref06_Some.l0 k y0 y1 y2 y3 y4 y5 y6) (downpourref06_Some.l0 (k + 1) y0 y1 y2 y3 y4 y5 y6))
  | 0 => fun _ _ _ _ _ _ _ r h => by simp [downpourref06_Some.l0] at h
  | k + 1 => by
    have ih0 := downpourref06_Some.mono_l k
    · intro y0 y1 y2 y3 y4 y5 y6
      unfold downpourref06_Some.l0
      repeat' first
      | (with_reducible exact ih0 _ _ _ _ _ _ _)
      | (with_reducible exact downpourref06_Shuffle.mono _ _ _)
      | (with_reducible exact downpourref06_in.mono _ _ _ _)
      | (with_reducible exact LeO.refl _)
      | (with_reducible exact LeO.none _)
      | (with_reducible refine LeO.ite ?_ ?_)
      | (with_reducible refine LeO.bind ?_ (fun _ => ?_))
      | exact ih0 _ _ _ _ _ _ _
      | exact downpourref06_Shuffle.mono _ _ _
      | exact downpourref06_in.mono _ _ _ _
      | exact LeO.none _
      | refine LeO.ite ?_ ?_
      | refine LeO.bind ?_ (fun _ => ?_)
theorem downpourref06_Some.mono : ∀ a0 a1 a2 k, LeO (downpourref06_Some.f k a0 a1 a2) (downpourref06_Some.f (k + 1) a0 a1 a2) := by
  intro a0 a1 a2 k
  have ih0 := downpourref06_Some.mono_l k
  unfold downpourref06_Some.f
  repeat' first
      | (with_reducible exact ih0 _ _ _ _ _ _ _)
      | (with_reducible exact downpourref06_Shuffle.mono _ _ _)
      | (with_reducible exact downpourref06_in.mono _ _ _ _)
      | (with_reducible exact LeO.refl _)
      | (with_reducible exact LeO.none _)
      | (with_reducible refine LeO.ite ?_ ?_)
      | (with_reducible refine LeO.bind ?_ (fun _ => ?_))
      | exact ih0 _ _ _ _ _ _ _
      | exact downpourref06_Shuffle.mono _ _ _
      | exact downpourref06_in.mono _ _ _ _
      | exact LeO.none _
      | refine LeO.ite ?_ ?_
      | refine LeO.bind ?_ (fun _ => ?_)
set_option maxHeartbeats 8000000 in
set_option maxRecDepth 100000 in
theorem downpourref06_Some.calls (k : Nat) (a0 : Int) (a1 : Int) (a2 : Int) (r1 : Int) (r2 : List Int) (w : World) (h : downpourref06_Some.f k a0 a1 a2 = some (r1, r2)) :
    Calls Try.prog 28 #[.int .u64 a0, .int .i64 a1, .int .i64 a2] w fun e w' => ∃ v1_ : Value, e = .returned (.agg #[.int .u64 r1, v1_]) ∧ Kd.R (Kd.int .i64) 3 w' w.heap.size (fun _ => True) v1_ r2 ∧ Below w.heap.size w w' := by
  have hu45 := Try.underlying45
  have HB := Aside0.mk (Below.refl w.heap.size w)
  have H : ((downpourref06_Shuffle.f k a0 a1).bind fun bt451 => (downpourref06_Some.l0 k a1 a2 0 bt451.1 bt451.2 bt451.1 ([] : List Int))) = some (r1, r2) := h
  clear h
  replace H := Option.bind_eq_some_iff.mp H
  obtain ⟨⟨t451, t452⟩, A40, H⟩ := H
  replace H : (downpourref06_Some.l0 k a1 a2 0 t451 t452 t451 ([] : List Int)) = some (r1, r2) := H
  have A4 := Aside0.mk A40
  clear A40
  have H' := Aside0.mk H
  clear H
  go_enter Try.func28, Try.ntmps28
  go_wp2_with (first | ((with_reducible refine gate_dst (N := 6) rfl ?_); refine box_event ?hg (N := 6) ?hd (cs := #[.int .u64 0, .slice none 0 0]) (t := 45) ?hr ?_; (case hd => rfl); (case hg => rfl); (case hr => first | (go_simp; done) | (go_simp; rfl)); intro gb450 hg w5 hbox hb; have n0_ := Aside0.mk (below_step (by repeat (first | (with_reducible first | exact HB.out | apply below_alloc | apply pw_below_drewN | apply below_drew1) | exact HB.out)) hb); have n1_ := Aside0.mk (hbox); have n2_ := Aside0.mk ((by rw [hg]; exact (below_size (by repeat (first | (with_reducible first | exact HB.out | apply below_alloc | apply pw_below_drewN | apply below_drew1) | exact HB.out))) : w.heap.size ≤ gb450)); have n3_ := Aside0.mk ((by rw [hg]; exact (below_size (by repeat (first | (with_reducible first | exact HB.out | apply below_alloc | apply pw_below_drewN | apply below_drew1) | exact HB.out))) : w.heap.size ≤ gb450)); clear HB; have HB := n0_; have BK450 := n1_; have GW450 := n2_; have GE450 := n3_; clear n0_ n1_ n2_ n3_; clear hb hbox hg) | ((with_reducible refine gate_callee (f := 26) rfl ?_); refine goesL_ (some 12) rfl rfl Try.func26 (by kernel_rfl) rfl #[.int .u64 a0, .int .i64 a1] rfl (by (try simp only [List.map_toArray, List.map_cons, List.map_nil]); first | done | rfl | (simp only [List.length_drop, List.length_take]; rfl)) ?_; (with_reducible refine (downpourref06_Shuffle.calls k a0 a1 t451 t452 _ A4.out).mono ?_); rintro e w6 ⟨v453, rfl, ho0, hb⟩; refine ⟨_, rfl, ?_⟩; have n0_ := Aside0.mk (Kd.R_lower ho0 (below_size (by repeat (first | (with_reducible first | exact HB.out | apply below_alloc | apply pw_below_drewN | apply below_drew1 | refine below_set ?_ GE450.out) | exact HB.out)))); have n1_ := Aside0.mk (blk_below (g := gb450) (o := .cells #[.int .u64 0, .slice none 0 0] 45 (0, 0)) (by (with_reducible repeat (first | refine blk_drewN ?_ _ | refine blk_drew ?_ | refine blk_alloc ?_ _)); exact BK450.out) hb); have n2_ := Aside0.mk (below_step (by repeat (first | (with_reducible first | exact HB.out | apply below_alloc | apply pw_below_drewN | apply below_drew1 | refine below_set ?_ GE450.out) | exact HB.out)) hb); clear BK450; clear HB; have HO454 := n0_; have BK450 := n1_; have HB := n2_; clear n0_ n1_ n2_; (try clear hb); (try clear hb2); (try clear hk); (try clear hi); (try clear ho0)) | ((with_reducible refine gate_dst (N := 7) rfl ?_); refine box_event ?hg (N := 7) ?hd (cs := #[.int .u64 0, .slice none 0 0]) (t := 45) ?hr ?_; (case hd => rfl); (case hg => rfl); (case hr => first | (go_simp; done) | (go_simp; rfl)); intro gb455 hg w7 hbox hb; have n0_ := Aside0.mk (Kd.R_below (by (with_reducible repeat (first | apply Kd.R_alloc | apply Kd.R_drewN | apply Kd.R_drew)); exact HO454.out) hb); have n1_ := Aside0.mk (blk_below (g := gb450) (o := .cells #[.int .u64 0, .slice none 0 0] 45 (0, 0)) (by (with_reducible repeat (first | refine blk_drewN ?_ _ | refine blk_drew ?_ | refine blk_alloc ?_ _)); exact BK450.out) hb); have n2_ := Aside0.mk (below_step (by repeat (first | (with_reducible first | exact HB.out | apply below_alloc | apply pw_below_drewN | apply below_drew1 | refine below_set ?_ GE450.out) | exact HB.out)) hb); have n3_ := Aside0.mk (hbox); have n4_ := Aside0.mk ((by rw [hg]; exact (below_size (by repeat (first | (with_reducible first | exact HB.out | apply below_alloc | apply pw_below_drewN | apply below_drew1 | refine below_set ?_ GE450.out) | exact HB.out))) : w.heap.size ≤ gb455)); have n5_ := Aside0.mk ((by rw [hg]; exact (below_size (by repeat (first | (with_reducible first | exact HB.out | apply below_alloc | apply pw_below_drewN | apply below_drew1 | refine below_set ?_ GE450.out) | exact HB.out))) : w.heap.size ≤ gb455)); have n6_ := Aside0.mk ((by rw [hg]; exact Nat.ne_of_lt (blk_lt (g := gb450) (o := .cells #[.int .u64 0, .slice none 0 0] 45 (0, 0)) (by (with_reducible repeat (first | refine blk_drewN ?_ _ | refine blk_drew ?_ | refine blk_alloc ?_ _)); exact BK450.out)) : gb450 ≠ gb455)); have n7_ := Aside0.mk ((by rw [hg]; exact Nat.ne_of_gt (blk_lt (g := gb450) (o := .cells #[.int .u64 0, .slice none 0 0] 45 (0, 0)) (by (with_reducible repeat (first | refine blk_drewN ?_ _ | refine blk_drew ?_ | refine blk_alloc ?_ _)); exact BK450.out)) : gb455 ≠ gb450)); clear HO454; clear BK450; clear HB; have HO454 := n0_; have BK450 := n1_; have HB := n2_; have BK455 := n3_; have GW455 := n4_; have GE455 := n5_; have NB450_455 := n6_; have NB455_450 := n7_; clear n0_ n1_ n2_ n3_ n4_ n5_ n6_ n7_; clear hb hbox hg; have hnb8 := NB455_450.out; have hnc8 := NB450_455.out; have hcz9_0 : w7.cell? ⟨gb455, 0, none⟩ = some (.int .u64 0) := (blk_cell BK455.out 0).trans rfl; have hcz9_1 : w7.cell? ⟨gb455, 1, none⟩ = some (.slice none 0 0) := (blk_cell BK455.out 1).trans rfl; have hfz9_0 := blk_frozen BK455.out 0; have hfz9_1 := blk_frozen BK455.out 1; obtain ⟨Ao10, co10, eo10⟩ := Kd.R_slice HO454.out; subst eo10) | ((with_reducible refine gate_dst (N := 8) rfl ?_); refine box_event ?hg (N := 8) ?hd (cs := #[.int .u64 0, .slice none 0 0]) (t := 45) ?hr ?_; (case hd => rfl); (case hg => rfl); (case hr => first | (go_simp; done) | (go_simp; rfl)); intro gb456 hg w11 hbox hb; have n0_ := Aside0.mk (Kd.R_below (by (with_reducible repeat (first | apply Kd.R_alloc | apply Kd.R_drewN | apply Kd.R_drew)); exact (Kd.R_mono (Kd.R_far (p := ⟨gb455, 1, none⟩) (Kd.R_far (p := ⟨gb455, 0, none⟩) (Kd.R_types HO454.out BK455.out (by decide)) (fun _ hk => hk.2) (.int .u64 t451)) (fun _ hk => hk.2) (.slice Ao10 t452.length co10)) (fun _ h_ => h_.1))) hb); have n1_ := Aside0.mk (blk_below (g := gb450) (o := .cells #[.int .u64 0, .slice none 0 0] 45 (0, 0)) (by (with_reducible repeat (first | refine blk_drewN ?_ _ | refine blk_drew ?_ | refine blk_alloc ?_ _)); refine blk_far ?_ NB450_455.out _; (with_reducible repeat (first | refine blk_drewN ?_ _ | refine blk_drew ?_ | refine blk_alloc ?_ _)); refine blk_far ?_ NB450_455.out _; (with_reducible repeat (first | refine blk_drewN ?_ _ | refine blk_drew ?_ | refine blk_alloc ?_ _)); exact BK450.out) hb); have n2_ := Aside0.mk (blk_below (g := gb455) (o := .cells #[.int .u64 t451, .slice Ao10 t452.length co10] 45 (0, 0)) (by (with_reducible repeat (first | refine blk_drewN ?_ _ | refine blk_drew ?_ | refine blk_alloc ?_ _)); refine blk_put (cs := #[.int .u64 t451, .slice none 0 0]) ?_ 1 _ rfl; (with_reducible repeat (first | refine blk_drewN ?_ _ | refine blk_drew ?_ | refine blk_alloc ?_ _)); refine blk_put (cs := #[.int .u64 0, .slice none 0 0]) ?_ 0 _ rfl; (with_reducible repeat (first | refine blk_drewN ?_ _ | refine blk_drew ?_ | refine blk_alloc ?_ _)); exact BK455.out) hb); have n3_ := Aside0.mk (below_step (by repeat (first | (with_reducible first | exact HB.out | apply below_alloc | apply pw_below_drewN | apply below_drew1 | refine below_set ?_ GE450.out | refine below_set ?_ GE455.out) | exact HB.out)) hb); have n4_ := Aside0.mk (hbox); have n5_ := Aside0.mk ((by rw [hg]; exact (below_size (by repeat (first | (with_reducible first | exact HB.out | apply below_alloc | apply pw_below_drewN | apply below_drew1 | refine below_set ?_ GE450.out | refine below_set ?_ GE455.out) | exact HB.out))) : w.heap.size ≤ gb456)); have n6_ := Aside0.mk ((by rw [hg]; exact (below_size (by repeat (first | (with_reducible first | exact HB.out | apply below_alloc | apply pw_below_drewN | apply below_drew1 | refine below_set ?_ GE450.out | refine below_set ?_ GE455.out) | exact HB.out))) : w.heap.size ≤ gb456)); have n7_ := Aside0.mk ((by rw [hg]; exact Nat.ne_of_lt (blk_lt (g := gb450) (o := .cells #[.int .u64 0, .slice none 0 0] 45 (0, 0)) (by (with_reducible repeat (first | refine blk_drewN ?_ _ | refine blk_drew ?_ | refine blk_alloc ?_ _)); refine blk_far ?_ NB450_455.out _; (with_reducible repeat (first | refine blk_drewN ?_ _ | refine blk_drew ?_ | refine blk_alloc ?_ _)); refine blk_far ?_ NB450_455.out _; (with_reducible repeat (first | refine blk_drewN ?_ _ | refine blk_drew ?_ | refine blk_alloc ?_ _)); exact BK450.out)) : gb450 ≠ gb456)); have n8_ := Aside0.mk ((by rw [hg]; exact Nat.ne_of_gt (blk_lt (g := gb450) (o := .cells #[.int .u64 0, .slice none 0 0] 45 (0, 0)) (by (with_reducible repeat (first | refine blk_drewN ?_ _ | refine blk_drew ?_ | refine blk_alloc ?_ _)); refine blk_far ?_ NB450_455.out _; (with_reducible repeat (first | refine blk_drewN ?_ _ | refine blk_drew ?_ | refine blk_alloc ?_ _)); refine blk_far ?_ NB450_455.out _; (with_reducible repeat (first | refine blk_drewN ?_ _ | refine blk_drew ?_ | refine blk_alloc ?_ _)); exact BK450.out)) : gb456 ≠ gb450)); have n9_ := Aside0.mk ((by rw [hg]; exact Nat.ne_of_lt (blk_lt (g := gb455) (o := .cells #[.int .u64 t451, .slice Ao10 t452.length co10] 45 (0, 0)) (by (with_reducible repeat (first | refine blk_drewN ?_ _ | refine blk_drew ?_ | refine blk_alloc ?_ _)); refine blk_put (cs := #[.int .u64 t451, .slice none 0 0]) ?_ 1 _ rfl; (with_reducible repeat (first | refine blk_drewN ?_ _ | refine blk_drew ?_ | refine blk_alloc ?_ _)); refine blk_put (cs := #[.int .u64 0, .slice none 0 0]) ?_ 0 _ rfl; (with_reducible repeat (first | refine blk_drewN ?_ _ | refine blk_drew ?_ | refine blk_alloc ?_ _)); exact BK455.out)) : gb455 ≠ gb456)); have n10_ := Aside0.mk ((by rw [hg]; exact Nat.ne_of_gt (blk_lt (g := gb455) (o := .cells #[.int .u64 t451, .slice Ao10 t452.length co10] 45 (0, 0)) (by (with_reducible repeat (first | refine blk_drewN ?_ _ | refine blk_drew ?_ | refine blk_alloc ?_ _)); refine blk_put (cs := #[.int .u64 t451, .slice none 0 0]) ?_ 1 _ rfl; (with_reducible repeat (first | refine blk_drewN ?_ _ | refine blk_drew ?_ | refine blk_alloc ?_ _)); refine blk_put (cs := #[.int .u64 0, .slice none 0 0]) ?_ 0 _ rfl; (with_reducible repeat (first | refine blk_drewN ?_ _ | refine blk_drew ?_ | refine blk_alloc ?_ _)); exact BK455.out)) : gb456 ≠ gb455)); clear HO454; clear BK450; clear BK455; clear HB; have HO454 := n0_; have BK450 := n1_; have BK455 := n2_; have HB := n3_; have BK456 := n4_; have GW456 := n5_; have GE456 := n6_; have NB450_456 := n7_; have NB456_450 := n8_; have NB455_456 := n9_; have NB456_455 := n10_; clear n0_ n1_ n2_ n3_ n4_ n5_ n6_ n7_ n8_ n9_ n10_; clear hb hbox hg; have hnb12 := NB456_450.out; have hnc12 := NB450_456.out; have hnb13 := NB456_455.out; have hnc13 := NB455_456.out; have hcz14_0 : w11.cell? ⟨gb456, 0, none⟩ = some (.int .u64 0) := (blk_cell BK456.out 0).trans rfl; have hcz14_1 : w11.cell? ⟨gb456, 1, none⟩ = some (.slice none 0 0) := (blk_cell BK456.out 1).trans rfl; have hfz14_0 := blk_frozen BK456.out 0; have hfz14_1 := blk_frozen BK456.out 1))
  go_loopg [9] k (fun kq v9 w' => ∃ (x9_1 : Int) (x457001_1 : List Int) (u457001 : Value), v9 = .int .i64 x9_1 ∧ Aside0 (downpourref06_Some.l0 kq a1 a2 x9_1 t451 t452 t451 x457001_1 = some (r1, r2)) ∧ Aside0 (kq ≤ k) ∧ Aside0 (Kd.R (Kd.int .i64) 3 w' w.heap.size (fun k_ => some k_ ≠ (u457001 : Value).ownBlock) (.slice Ao10 t452.length co10) t452) ∧ Aside0 (Kd.R (Kd.int .i64) 3 w' w.heap.size (fun k_ => some k_ ≠ ((.slice Ao10 t452.length co10) : Value).ownBlock) u457001 x457001_1) ∧ Aside0 (w'.heap[gb450]? = some (.cells #[.int .u64 0, (.slice none 0 0)] 45 (0, 0))) ∧ Aside0 (w'.heap[gb455]? = some (.cells #[.int .u64 t451, (.slice Ao10 t452.length co10)] 45 (0, 0))) ∧ Aside0 (w'.heap[gb456]? = some (.cells #[.int .u64 t451, u457001] 45 (0, 0))) ∧ Aside0 (Below w.heap.size w w'))
  case atStart => exact ⟨(0), (([] : List Int)), (.slice none 0 0), (by first | rfl | (simp; done) | (simp [*]; done)), H', ⟨Nat.le_refl _⟩, ⟨by (with_reducible repeat (first | apply Kd.R_alloc | apply Kd.R_drewN | apply Kd.R_drew)); exact Kd.R_mono (Kd.R_far (p := ⟨gb456, 1, none⟩) (Kd.R_far (p := ⟨gb456, 0, none⟩) (Kd.R_types HO454.out BK456.out (by decide)) (fun _ hk => hk.2) (.int .u64 t451)) (fun _ hk => hk.2) (.slice none 0 0)) (fun _ hk => (by simp [Value.ownBlock]))⟩, ⟨by first | exact Kd.R_nil _ _ _ _ _ | exact Kd.N_nil _ _ _ _ _ | exact Kd.V_nil _ _ _ _ _ | exact Kd.Q_nil _ _ _ _ _ | exact Kd.S_nil _ _ _ _ _⟩, ⟨by (with_reducible repeat (first | refine blk_drewN ?_ _ | refine blk_drew ?_ | refine blk_alloc ?_ _)); refine blk_far ?_ NB450_456.out _; (with_reducible repeat (first | refine blk_drewN ?_ _ | refine blk_drew ?_ | refine blk_alloc ?_ _)); refine blk_far ?_ NB450_456.out _; (with_reducible repeat (first | refine blk_drewN ?_ _ | refine blk_drew ?_ | refine blk_alloc ?_ _)); exact BK450.out⟩, ⟨by (with_reducible repeat (first | refine blk_drewN ?_ _ | refine blk_drew ?_ | refine blk_alloc ?_ _)); refine blk_far ?_ NB455_456.out _; (with_reducible repeat (first | refine blk_drewN ?_ _ | refine blk_drew ?_ | refine blk_alloc ?_ _)); refine blk_far ?_ NB455_456.out _; (with_reducible repeat (first | refine blk_drewN ?_ _ | refine blk_drew ?_ | refine blk_alloc ?_ _)); exact BK455.out⟩, ⟨by (with_reducible repeat (first | refine blk_drewN ?_ _ | refine blk_drew ?_ | refine blk_alloc ?_ _)); refine blk_put (cs := #[.int .u64 t451, .slice none 0 0]) ?_ 1 _ rfl; (with_reducible repeat (first | refine blk_drewN ?_ _ | refine blk_drew ?_ | refine blk_alloc ?_ _)); refine blk_put (cs := #[.int .u64 0, .slice none 0 0]) ?_ 0 _ rfl; (with_reducible repeat (first | refine blk_drewN ?_ _ | refine blk_drew ?_ | refine blk_alloc ?_ _)); exact BK456.out⟩, ⟨by repeat (first | (with_reducible first | exact HB.out | apply below_alloc | apply pw_below_drewN | apply below_drew1 | refine below_set ?_ GE450.out | refine below_set ?_ GE455.out | refine below_set ?_ GE456.out) | exact HB.out)⟩⟩
  case round =>
    clear H'
    try clear c1
    try clear c2
    try clear p2
    try clear c8
    try clear c12
    try clear c13
    try clear hcz14_0
    try clear hcz14_1
    try clear hcz9_0
    try clear hcz9_1
    try clear hfz14_0
    try clear hfz14_1
    try clear hfz9_0
    try clear hfz9_1
    obtain ⟨x9_1, x457001_1, u457001, rfl, HA, HK1, HO_456001, HO_457001, BK450, BK455, BK456, HB⟩ := hrel
    cases gk with
    | zero => exact absurd HA.out (by simp [downpourref06_Some.l0])
    | succ k1 =>
      have H := HA.out
      clear HA
      simp only [downpourref06_Some.l0] at H
      by_cases c15 : x9_1 < a1
      · rw [if_pos c15] at H
        have c15b0 : decide (x9_1 < a1) = true := decide_eq_true c15
        clear c15
        replace H := Option.bind_eq_some_iff.mp H
        obtain ⟨t457, A160, H⟩ := H
        replace H : (if t457 = true then (if x457001_1.length < 17592186044416 then (downpourref06_Some.l0 k1 a1 a2 (wrap64 (x9_1 + 1)) t451 t452 t451 (x457001_1 ++ [x9_1])) else (none)) else (downpourref06_Some.l0 k1 a1 a2 (wrap64 (x9_1 + 1)) t451 t452 t451 x457001_1)) = some (r1, r2) := H
        have A16 := Aside0.mk A160
        clear A160
        by_cases c17 : t457 = true
        · subst c17
          have H1 : (if x457001_1.length < 17592186044416 then (downpourref06_Some.l0 k1 a1 a2 (wrap64 (x9_1 + 1)) t451 t452 t451 (x457001_1 ++ [x9_1])) else (none)) = some (r1, r2) := by rw [if_pos rfl] at H; exact H
          clear H
          have H := H1
          clear H1
          by_cases c18 : x457001_1.length < 17592186044416
          · rw [if_pos c18] at H
            have LMc18 := Aside0.mk c18
            clear c18
            obtain ⟨y458, hy458⟩ : ∃ y_ : List Int, y_ = (x457001_1 ++ [x9_1]) := ⟨_, rfl⟩
            replace H : (downpourref06_Some.l0 k1 a1 a2 (wrap64 (x9_1 + 1)) t451 t452 t451 y458) = some (r1, r2) := by first | (rw [hy458]; with_reducible exact H) | (have H2_ := (Option.bind_some _ _).symm.trans H; rw [hy458]; with_reducible exact H2_) | (have H2_ := (Option.bind_some _ _).symm.trans H; with_reducible exact H2_) | with_reducible exact H | (rw [hy458]; exact H) | exact H
            have Ny458 := Aside0.mk hy458
            clear hy458
            have H' := Aside0.mk H
            clear H
            have hnb19 := NB455_450.out
            have hnc19 := NB450_455.out
            have hnb20 := NB455_456.out
            have hnc20 := NB456_455.out
            have hcz21_0 : wr.cell? ⟨gb455, 0, none⟩ = some (.int .u64 t451) := (blk_cell BK455.out 0).trans rfl
            have hcz21_1 : wr.cell? ⟨gb455, 1, none⟩ = some (.slice Ao10 t452.length co10) := (blk_cell BK455.out 1).trans rfl
            have hfz21_0 := blk_frozen BK455.out 0
            have hfz21_1 := blk_frozen BK455.out 1
            go_wp2_with (first | ((with_reducible refine gate_callee (f := 86) rfl ?_); refine goesL_ (some 25) rfl rfl Try.func86 (by kernel_rfl) rfl #[.slice Ao10 t452.length co10, .int .i64 a2, .int .i64 x9_1] rfl (by (try simp only [List.map_toArray, List.map_cons, List.map_nil]); first | done | rfl | (simp only [List.length_drop, List.length_take]; rfl)) ?_; (with_reducible refine (downpourref06_in.calls k1 _ _ t452 a2 x9_1 true _ ?side1 ?side2 A16.out).mono ?_); (case side1 => repeat (first | exact (Kd.R_reads' HO_456001.out).2.2 | (with_reducible refine Kd.C_alloc ?_ _) | (with_reducible refine Kd.C_drewN ?_ _) | (with_reducible refine Kd.C_drew ?_))); (case side2 => exact (Kd.R_reads' HO_456001.out).2.1); rintro e w' ⟨rfl, ⟨nd, rfl⟩⟩; refine ⟨_, rfl, ?_⟩; (try (rw [drewN_self wr]; generalize hq_ : World.drewN wr _ = wr; have n0_ : Aside0 (Kd.R (Kd.int .i64) 3 wr w.heap.size (fun k_ => some k_ ≠ (u457001 : Value).ownBlock) (.slice Ao10 t452.length co10) t452) := ⟨by rw [← hq_]; exact (by (with_reducible repeat (first | apply Kd.R_alloc | apply Kd.R_drewN | apply Kd.R_drew)); exact HO_456001.out)⟩; have n1_ : Aside0 (Kd.R (Kd.int .i64) 3 wr w.heap.size (fun k_ => some k_ ≠ (.slice Ao10 t452.length co10 : Value).ownBlock) u457001 x457001_1) := ⟨by rw [← hq_]; exact (by (with_reducible repeat (first | apply Kd.R_alloc | apply Kd.R_drewN | apply Kd.R_drew)); exact HO_457001.out)⟩; have n2_ : Aside0 (wr.heap[gb450]? = some (.cells #[.int .u64 0, .slice none 0 0] 45 (0, 0))) := ⟨by rw [← hq_]; exact (by (with_reducible repeat (first | refine blk_drewN ?_ _ | refine blk_drew ?_ | refine blk_alloc ?_ _)); exact BK450.out)⟩; have n3_ : Aside0 (wr.heap[gb455]? = some (.cells #[.int .u64 t451, .slice Ao10 t452.length co10] 45 (0, 0))) := ⟨by rw [← hq_]; exact (by (with_reducible repeat (first | refine blk_drewN ?_ _ | refine blk_drew ?_ | refine blk_alloc ?_ _)); exact BK455.out)⟩; have n4_ : Aside0 (wr.heap[gb456]? = some (.cells #[.int .u64 t451, u457001] 45 (0, 0))) := ⟨by rw [← hq_]; exact (by (with_reducible repeat (first | refine blk_drewN ?_ _ | refine blk_drew ?_ | refine blk_alloc ?_ _)); exact BK456.out)⟩; have n5_ : Aside0 (Below w.heap.size w wr) := ⟨by rw [← hq_]; exact (by repeat (first | (with_reducible first | exact HB.out | apply below_alloc | apply pw_below_drewN | apply below_drew1 | refine below_set ?_ GE450.out | refine below_set ?_ GE455.out | refine below_set ?_ GE456.out) | exact HB.out))⟩; clear HO_456001 HO_457001 BK450 BK455 BK456 HB hq_; have HO_456001 := n0_; have HO_457001 := n1_; have BK450 := n2_; have BK455 := n3_; have BK456 := n4_; have HB := n5_; clear n0_ n1_ n2_ n3_ n4_ n5_)); have hnb22 := NB456_450.out; have hnc22 := NB450_456.out; have hcz23_0 : wr.cell? ⟨gb456, 0, none⟩ = some (.int .u64 t451) := (blk_cell BK456.out 0).trans rfl; have hcz23_1 : wr.cell? ⟨gb456, 1, none⟩ = some (u457001) := (blk_cell BK456.out 1).trans rfl; have hfz23_0 := blk_frozen BK456.out 0; have hfz23_1 := blk_frozen BK456.out 1) | ((with_reducible refine gate_builtin (b := .append) (xs := #[.tmp 27, .tmp 29]) rfl ?_); at_builtin; refine Kd.R_append (Kd.int .i64) (w0 := w) w.heap.size rfl (.tmp 27) (.tmp 29) 40 3 (.int .i64 0) 8 rfl Try.underlying40 info3 rfl (by decide) (by omega) u457001 x457001_1 x9_1 [.int .i64 x9_1] (fun k_ => some k_ ≠ (.slice Ao10 t452.length co10 : Value).ownBlock) (fun _ => False) rfl rfl ?aP (fun _ hk => hk.elim) ?aF ?aO ?aB ?aS ?aL ?_; (case aP => exact rfl); (case aB => exact (by repeat (first | (with_reducible first | exact HB.out | apply below_alloc | apply pw_below_drewN | apply below_drew1 | refine below_set ?_ GE450.out | refine below_set ?_ GE455.out | refine below_set ?_ GE456.out) | exact HB.out))); (case aF => exact (fun k_ hk => Kd.fresh' (Kd.R_lt (by (with_reducible repeat (first | apply Kd.R_alloc | apply Kd.R_drewN | apply Kd.R_drew)); exact HO_456001.out)) k_ hk)); (case aO => exact (by (with_reducible repeat (first | apply Kd.R_alloc | apply Kd.R_drewN | apply Kd.R_drew)); exact HO_457001.out)); (case aS => exact (below_size (by repeat (first | (with_reducible first | exact HB.out | apply below_alloc | apply pw_below_drewN | apply below_drew1 | refine below_set ?_ GE450.out | refine below_set ?_ GE455.out | refine below_set ?_ GE456.out) | exact HB.out)))); (case aL => have := LMc18.out; omega); intro v459 w24 ho hb hg hat; rw [← Ny458.out] at ho; have n0_ := Aside0.mk (Kd.R_after (ok := (fun _ => True)) (by (with_reducible repeat (first | apply Kd.R_alloc | apply Kd.R_drewN | apply Kd.R_drew)); exact Kd.R_mono HO_456001.out (fun _ hk => ⟨trivial, hk⟩)) hg hat); have n1_ := Aside0.mk (blk_grown (g := gb450) (o := .cells #[.int .u64 0, .slice none 0 0] 45 (0, 0)) (by (with_reducible repeat (first | refine blk_drewN ?_ _ | refine blk_drew ?_ | refine blk_alloc ?_ _)); exact BK450.out) hg (Kd.R_ne HO_457001.out BK450.out (by decide))); have n2_ := Aside0.mk (blk_grown (g := gb455) (o := .cells #[.int .u64 t451, .slice Ao10 t452.length co10] 45 (0, 0)) (by (with_reducible repeat (first | refine blk_drewN ?_ _ | refine blk_drew ?_ | refine blk_alloc ?_ _)); exact BK455.out) hg (Kd.R_ne HO_457001.out BK455.out (by decide))); have n3_ := Aside0.mk (blk_grown (g := gb456) (o := .cells #[.int .u64 t451, u457001] 45 (0, 0)) (by (with_reducible repeat (first | refine blk_drewN ?_ _ | refine blk_drew ?_ | refine blk_alloc ?_ _)); exact BK456.out) hg (Kd.R_ne HO_457001.out BK456.out (by decide))); have n4_ := Aside0.mk (hb); have n5_ := Aside0.mk (ho); clear HO_456001; clear BK450; clear BK455; clear BK456; clear HB; clear HO_457001; have HO_456001 := n0_; have BK450 := n1_; have BK455 := n2_; have BK456 := n3_; have HB := n4_; have HO460 := n5_; clear n0_ n1_ n2_ n3_ n4_ n5_; clear ho hb hg hat; obtain ⟨Ao25, co25, eo25⟩ := Kd.R_slice HO460.out; subst eo25; have hcz26_0 : w24.cell? ⟨gb456, 0, none⟩ = some (.int .u64 t451) := (blk_cell BK456.out 0).trans rfl; have hcz26_1 : w24.cell? ⟨gb456, 1, none⟩ = some (u457001) := (blk_cell BK456.out 1).trans rfl; have hfz26_0 := blk_frozen BK456.out 0; have hfz26_1 := blk_frozen BK456.out 1))
            go_roundg k1
            case measure => have := HK1.out; omega
            case rel => exact ⟨(wrap64 (x9_1 + 1)), (y458), (.slice Ao25 y458.length co25), (by first | rfl | (simp; done) | (simp [*]; done)), H', ⟨by have := HK1.out; omega⟩, ⟨by (with_reducible repeat (first | apply Kd.R_alloc | apply Kd.R_drewN | apply Kd.R_drew)); exact Kd.R_mono (Kd.R_far (p := ⟨gb456, 1, none⟩) (Kd.R_types HO_456001.out BK456.out (by decide)) (fun _ hk => hk.2) (.slice Ao25 y458.length co25)) (fun _ hk => hk.1.2)⟩, ⟨by (with_reducible repeat (first | apply Kd.R_alloc | apply Kd.R_drewN | apply Kd.R_drew)); exact Kd.R_mono (Kd.R_far (p := ⟨gb456, 1, none⟩) (Kd.R_types HO460.out BK456.out (by decide)) (fun _ hk => hk.2) (.slice Ao25 y458.length co25)) (fun _ hk => hk.1)⟩, ⟨by (with_reducible repeat (first | refine blk_drewN ?_ _ | refine blk_drew ?_ | refine blk_alloc ?_ _)); refine blk_far ?_ NB450_456.out _; (with_reducible repeat (first | refine blk_drewN ?_ _ | refine blk_drew ?_ | refine blk_alloc ?_ _)); exact BK450.out⟩, ⟨by (with_reducible repeat (first | refine blk_drewN ?_ _ | refine blk_drew ?_ | refine blk_alloc ?_ _)); refine blk_far ?_ NB455_456.out _; (with_reducible repeat (first | refine blk_drewN ?_ _ | refine blk_drew ?_ | refine blk_alloc ?_ _)); exact BK455.out⟩, ⟨by (with_reducible repeat (first | refine blk_drewN ?_ _ | refine blk_drew ?_ | refine blk_alloc ?_ _)); refine blk_put (cs := #[.int .u64 t451, u457001]) ?_ 1 _ rfl; (with_reducible repeat (first | refine blk_drewN ?_ _ | refine blk_drew ?_ | refine blk_alloc ?_ _)); exact BK456.out⟩, ⟨by repeat (first | (with_reducible first | exact HB.out | apply below_alloc | apply pw_below_drewN | apply below_drew1 | refine below_set ?_ GE450.out | refine below_set ?_ GE455.out | refine below_set ?_ GE456.out) | exact HB.out)⟩⟩
          · rw [if_neg c18] at H
            exact absurd H (by simp)
        · replace c17 := Bool.eq_false_iff.mpr c17
          subst c17
          have H1 : (downpourref06_Some.l0 k1 a1 a2 (wrap64 (x9_1 + 1)) t451 t452 t451 x457001_1) = some (r1, r2) := by rw [if_neg (show ¬ (false = true) by decide)] at H; exact H
          clear H
          have H := H1
          clear H1
          have H' := Aside0.mk H
          clear H
          have hnb27 := NB455_450.out
          have hnc27 := NB450_455.out
          have hnb28 := NB455_456.out
          have hnc28 := NB456_455.out
          have hcz29_0 : wr.cell? ⟨gb455, 0, none⟩ = some (.int .u64 t451) := (blk_cell BK455.out 0).trans rfl
          have hcz29_1 : wr.cell? ⟨gb455, 1, none⟩ = some (.slice Ao10 t452.length co10) := (blk_cell BK455.out 1).trans rfl
          have hfz29_0 := blk_frozen BK455.out 0
          have hfz29_1 := blk_frozen BK455.out 1
          go_wp2_with (first | ((with_reducible refine gate_callee (f := 86) rfl ?_); refine goesL_ (some 25) rfl rfl Try.func86 (by kernel_rfl) rfl #[.slice Ao10 t452.length co10, .int .i64 a2, .int .i64 x9_1] rfl (by (try simp only [List.map_toArray, List.map_cons, List.map_nil]); first | done | rfl | (simp only [List.length_drop, List.length_take]; rfl)) ?_; (with_reducible refine (downpourref06_in.calls k1 _ _ t452 a2 x9_1 false _ ?side1 ?side2 A16.out).mono ?_); (case side1 => repeat (first | exact (Kd.R_reads' HO_456001.out).2.2 | (with_reducible refine Kd.C_alloc ?_ _) | (with_reducible refine Kd.C_drewN ?_ _) | (with_reducible refine Kd.C_drew ?_))); (case side2 => exact (Kd.R_reads' HO_456001.out).2.1); rintro e w' ⟨rfl, ⟨nd, rfl⟩⟩; refine ⟨_, rfl, ?_⟩))
          go_roundg k1
          case measure => have := HK1.out; omega
          case rel => exact ⟨(wrap64 (x9_1 + 1)), (x457001_1), (u457001), (by first | rfl | (simp; done) | (simp [*]; done)), H', ⟨by have := HK1.out; omega⟩, ⟨by (with_reducible repeat (first | apply Kd.R_alloc | apply Kd.R_drewN | apply Kd.R_drew)); exact HO_456001.out⟩, ⟨by (with_reducible repeat (first | apply Kd.R_alloc | apply Kd.R_drewN | apply Kd.R_drew)); exact HO_457001.out⟩, ⟨by (with_reducible repeat (first | refine blk_drewN ?_ _ | refine blk_drew ?_ | refine blk_alloc ?_ _)); exact BK450.out⟩, ⟨by (with_reducible repeat (first | refine blk_drewN ?_ _ | refine blk_drew ?_ | refine blk_alloc ?_ _)); exact BK455.out⟩, ⟨by (with_reducible repeat (first | refine blk_drewN ?_ _ | refine blk_drew ?_ | refine blk_alloc ?_ _)); exact BK456.out⟩, ⟨by repeat (first | (with_reducible first | exact HB.out | apply below_alloc | apply pw_below_drewN | apply below_drew1 | refine below_set ?_ GE450.out | refine below_set ?_ GE455.out | refine below_set ?_ GE456.out) | exact HB.out)⟩⟩
      · rw [if_neg c15] at H
        have c15b0 : decide (x9_1 < a1) = false := decide_eq_false c15
        clear c15
        simp only [Option.some.injEq, Prod.mk.injEq] at H
        obtain ⟨rfl, rfl⟩ := H
        have hnb30 := NB456_450.out
        have hnc30 := NB450_456.out
        have hnb31 := NB456_455.out
        have hnc31 := NB455_456.out
        have hcz32_0 : wr.cell? ⟨gb456, 0, none⟩ = some (.int .u64 t451) := (blk_cell BK456.out 0).trans rfl
        have hcz32_1 : wr.cell? ⟨gb456, 1, none⟩ = some (u457001) := (blk_cell BK456.out 1).trans rfl
        have hfz32_0 := blk_frozen BK456.out 0
        have hfz32_1 := blk_frozen BK456.out 1
        have hnb33 := NB450_455.out
        have hnc33 := NB455_450.out
        have hcz34_0 : wr.cell? ⟨gb450, 0, none⟩ = some (.int .u64 0) := (blk_cell BK450.out 0).trans rfl
        have hcz34_1 : wr.cell? ⟨gb450, 1, none⟩ = some (.slice none 0 0) := (blk_cell BK450.out 1).trans rfl
        have hfz34_0 := blk_frozen BK450.out 0
        have hfz34_1 := blk_frozen BK450.out 1
        obtain ⟨Ao35, co35, eo35⟩ := Kd.R_slice HO_457001.out
        subst eo35
        go_wp2
        refine bodyPost_ret (results_cell_row rfl _ _ gb450 45 #[.int .u64 t451, .slice Ao35 x457001_1.length co35] (0, 0) _ rfl (by (with_reducible repeat (first | refine blk_drewN ?_ _ | refine blk_drew ?_ | refine blk_alloc ?_ _)); refine blk_put (cs := #[.int .u64 t451, .slice none 0 0]) ?_ 1 _ rfl; (with_reducible repeat (first | refine blk_drewN ?_ _ | refine blk_drew ?_ | refine blk_alloc ?_ _)); refine blk_put (cs := #[.int .u64 0, .slice none 0 0]) ?_ 0 _ rfl; (with_reducible repeat (first | refine blk_drewN ?_ _ | refine blk_drew ?_ | refine blk_alloc ?_ _)); exact BK450.out) Try.underlying45 rfl (by kernel_rfl)) rfl ?_
        exact ⟨_, by first | rfl | (simp [errW_none, errW_some] <;> rfl) | (simp [*, errW_none, errW_some] <;> rfl), by (with_reducible repeat (first | apply Kd.R_alloc | apply Kd.R_drewN | apply Kd.R_drew)); exact Kd.R_mono (Kd.R_far (p := ⟨gb450, 1, none⟩) (Kd.R_far (p := ⟨gb450, 0, none⟩) (Kd.R_types HO_457001.out BK450.out (by decide)) (fun _ hk => hk.2) (.int .u64 t451)) (fun _ hk => hk.2) (.slice Ao35 x457001_1.length co35)) (fun _ hk => trivial), by repeat (first | (with_reducible first | exact HB.out | apply below_alloc | apply pw_below_drewN | apply below_drew1 | refine below_set ?_ GE450.out | refine below_set ?_ GE455.out | refine below_set ?_ GE456.out) | exact HB.out)⟩

end Go.Proofs.Ytaofanhdmfdlmaa.Print
